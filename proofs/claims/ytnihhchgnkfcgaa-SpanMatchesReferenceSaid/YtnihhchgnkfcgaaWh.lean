/- The walks of Euclid's algorithm and of a product modulo a number. -/
import Derived.Test.YtnihhchgnkfcgaaWf
import Derived.Test.YtnihhchgnkfcgaaPc
set_option linter.unusedSimpArgs false
set_option linter.unusedVariables false
namespace Go.Proofs.Ytnihhchgnkfcgaa
open Go.ChangeShapes Go.WideShapes Go.ChangeAt Go.RowKit

abbrev a3 (e : Int × Int × Int) : Value := .agg #[.int .i64 e.1, .int .i64 e.2.1, .int .i64 e.2.2]

set_option maxHeartbeats 1000000 in
theorem euclid_any (n : Nat) : ∀ (a b : Int) (w : World), 0 ≤ a → a ≤ 4294967296 → 0 ≤ b → b ≤ 4294967296 → b ≤ n →
    Calls Try.prog 58 #[.int .i64 a, .int .i64 b] w fun e w' => e = .returned (a3 (euclM n a b)) ∧ Below w.heap.size w w' := by
  have base : ∀ (n : Nat) (a : Int) (w : World), Calls Try.prog 58 #[.int .i64 a, .int .i64 0] w fun e w' => e = .returned (a3 (euclM n a 0)) ∧ Below w.heap.size w w' := by
    intro n a w
    have hD := Lib.hid (eucl0 n a)
    go_enter Try.func58, Try.ntmps58
    go_wp2_with fail
    exact bodyPost_ret (v := .agg #[.int .i64 a, .int .i64 1, .int .i64 0]) (by simp [results, Try.results58, go_sem]) rfl ⟨by rw [hD.out], by go_grown⟩
  induction n with
  | zero =>
    intro a b w _ _ hb _ hn
    have : b = 0 := by omega
    subst this
    exact base 0 a w
  | succ n ih =>
    intro a b w ha ha2 hb hb2 hn
    by_cases hz : b = 0
    · subst hz
      exact base _ a w
    · have hr := Int.emod_nonneg a (b := b) hz
      have hr2 := Int.emod_lt_of_pos a (b := b) (by omega)
      have hbeq : (b == 0) = false := beq_eq_false_iff_ne.2 hz
      obtain ⟨i1, i2, i3, i4, i5, i6⟩ := eucl_spec n b (a % b) hb hr (by omega)
      have hD := Lib.hid (show euclM (n + 1) a b = ((euclM n b (a % b)).1, (euclM n b (a % b)).2.2, (euclM n b (a % b)).2.1 - a / b * (euclM n b (a % b)).2.2) by simp [euclM, hz])
      have IH := Lib.hid (fun w => ih b (a % b) w hb hb2 hr (by omega) (by omega))
      clear ih base
      generalize euclM n b (a % b) = e at *
      obtain ⟨g, x, y⟩ := e
      dsimp only at *
      have hd := Int.mul_ediv_add_emod a b
      have hq : 0 ≤ a / b := Int.ediv_nonneg ha hb
      have h1 : -(a / b * b) ≤ a / b * y := by
        have := Int.mul_le_mul_of_nonneg_left (show -b ≤ y by omega) hq
        rw [Int.mul_neg] at this; exact this
      have h2 : a / b * y ≤ a / b * b := Int.mul_le_mul_of_nonneg_left (by omega) hq
      have h3 : b * (a / b) = a / b * b := Int.mul_comm ..
      have e1 : IntKind.i64.wrap (a / b * y) = a / b * y := IntWalk.i64_in _ (by omega)
      have e2 : IntKind.i64.wrap (x - a / b * y) = x - a / b * y := IntWalk.i64_in _ (by omega)
      have e3 : a.tdiv b = a / b := Int.tdiv_eq_ediv_of_nonneg ha
      have e4 : a.tmod b = a % b := Int.tmod_eq_emod_of_nonneg ha
      have e5 : IntKind.i64.wrap (a / b) = a / b := IntWalk.i64_in _ (by have := (ediv_bd (a := a) (b := b) (by omega)).1 ha; omega)
      clear h1 h2 h3 hd i1 i2
      go_enter Try.func58, Try.ntmps58
      go_wp2_with (go_at_call 58; refine (IH.out _).mono ?_; rintro e w1 ⟨rfl, hb⟩; obtain ⟨hc, hf⟩ := bcell hb; have hz := hb.size; (try simp at hz); have z0 : w.heap.size < w1.heap.size := (by omega); have c0 := fun o => hc (w.heap.size) o (by go_size); have f0 := fun o => hf (w.heap.size) o (by go_size); clear hc hf; have hB := bup (B := w.heap.size) (w := w) (by go_grown) hb (by go_size); clear hb)
      go_region_held3 (fun w' => w'.cell? ⟨w1.heap.size, 0, none⟩ = some (.int .i64 g) ∧ w'.cell? ⟨w1.heap.size, 1, none⟩ = some (.int .i64 x) ∧ w'.cell? ⟨w1.heap.size, 2, none⟩ = some (.int .i64 y)) ((first | (go_keep; done) | ((repeat apply And.intro) <;> (try simp (disch := omega) only [scf]) <;> simp [*, go_sem]))) (fail)
      go_wp2
      exact bodyPost_ret (v := .agg #[.int .i64 g, .int .i64 y, .int .i64 (x - a / b * y)]) (by simp [results, Try.results58, go_sem, *]) rfl ⟨by rw [hD.out], by go_grown⟩

theorem div64_any (lo y : Int) (w : World) (h1 : 0 ≤ lo) (h2 : lo ≤ 18446744073709551615) (h3 : 1 ≤ y) (h4 : y ≤ 18446744073709551615) :
    Calls Try.prog 67 #[.int .u64 0, .int .u64 lo, .int .u64 y] w fun e w' => e = .returned (.tuple #[.int .u64 (lo / y), .int .u64 (lo % y)]) ∧ Below w.heap.size w w' := by
  have hb : (y == 0) = false := beq_eq_false_iff_ne.2 (by omega)
  have hq := (ediv_bd (a := lo) h3).1 h1
  obtain ⟨q1, q2⟩ := hq
  have r1 := Int.emod_nonneg lo (b := y) (by omega)
  have r2 := Int.emod_lt_of_pos lo (b := y) (by omega)
  have e1 : lo.tdiv y = lo / y := Int.tdiv_eq_ediv_of_nonneg h1
  have e2 : lo.tmod y = lo % y := Int.tmod_eq_emod_of_nonneg h1
  have e3 : IntKind.u64.wrap (lo / y) = lo / y := IntWalk.u64_in _ (by omega)
  go_enter Try.func67, Try.ntmps67
  go_wp2
  go_quiet (fail)
  go_wp2
  go_ret2
  exact ⟨rfl, by exact ⟨rfl, rfl, rfl, Nat.le_refl _, fun _ _ => rfl⟩⟩

theorem rem64_any (lo y : Int) (w : World) (h1 : 0 ≤ lo) (h2 : lo ≤ 18446744073709551615) (h3 : 1 ≤ y) (h4 : y ≤ 18446744073709551615) :
    Calls Try.prog 65 #[.int .u64 0, .int .u64 lo, .int .u64 y] w fun e w' => e = .returned (.int .u64 (lo % y)) ∧ Below w.heap.size w w' := by
  have e0 : (0 : Int) % y = 0 := Int.zero_emod ..
  go_enter Try.func65, Try.ntmps65
  go_wp2_with (go_at_call 67; refine (div64_any lo y _ h1 h2 h3 h4).mono ?_; rintro e w1 ⟨rfl, hb⟩)
  go_ret
  exact ⟨rfl, hb⟩

theorem mul64_small (x y : Nat) (h : x * y < 18446744073709551616) (hx : x < 18446744073709551616) (hy : y < 18446744073709551616) (w : World) :
    Calls Try.prog 64 #[.int .u64 x, .int .u64 y] w fun e w' => e = .returned (.tuple #[.int .u64 0, .int .u64 ((x : Int) * (y : Int))]) ∧ w = w' :=
  (Try.bits_Mul64 x y hx hy w).mono fun e w' ⟨he, hw⟩ => ⟨by rw [he, Nat.div_eq_of_lt h, Nat.mod_eq_of_lt h, Int.natCast_mul]; rfl, hw.symm⟩

theorem mulmod_any (a b m : Int) (w : World) (h1 : -4611686018427387904 ≤ a) (h2 : a ≤ 4611686018427387904) (h3 : -4611686018427387904 ≤ b) (h4 : b ≤ 4611686018427387904) (h5 : 1 ≤ m) (h6 : m ≤ 2147483648) :
    Calls Try.prog 59 #[.int .i64 a, .int .i64 b, .int .i64 m] w fun e w' => e = .returned (.int .i64 (a * b % m)) ∧ Below w.heap.size w w' := by
  have r1 := Int.emod_nonneg a (b := m) (by omega)
  have r2 := Int.emod_lt_of_pos a (b := m) (by omega)
  have r3 := Int.emod_nonneg b (b := m) (by omega)
  have r4 := Int.emod_lt_of_pos b (b := m) (by omega)
  obtain ⟨x, hx⟩ : ∃ x : Nat, a % m = x := ⟨(a % m).toNat, by omega⟩
  obtain ⟨y, hy⟩ : ∃ y : Nat, b % m = y := ⟨(b % m).toNat, by omega⟩
  have RA := Lib.hid (fun w => rest_any a m w h5 (by omega) h1 h2)
  have RB := Lib.hid (fun w => rest_any b m w h5 (by omega) h3 h4)
  have hD := Lib.hid (show a * b % m = (x : Int) * (y : Int) % m by rw [← hx, ← hy]; exact Int.mul_emod a b m)
  rw [hx] at r1 r2 RA
  rw [hy] at r3 r4 RB
  clear hx hy
  have hlt : x * y < 4611686018427387905 := by
    have : x * y ≤ 2147483648 * 2147483648 := Nat.mul_le_mul (by omega) (by omega)
    omega
  have p0 : (0 : Int) ≤ (x : Int) * (y : Int) := by rw [← Int.natCast_mul]; omega
  have p1 : (x : Int) * (y : Int) ≤ 4611686018427387904 := by rw [← Int.natCast_mul]; omega
  have q1 := Int.emod_nonneg ((x : Int) * (y : Int)) (b := m) (by omega)
  have q2 := Int.emod_lt_of_pos ((x : Int) * (y : Int)) (b := m) (by omega)
  have HL := Lib.hid hlt; clear hlt
  go_enter Try.func59, Try.ntmps59
  go_wp2_with fail
  refine (RA.out _).mono ?_
  rintro e w1 ⟨rfl, rfl⟩
  go_wp2_with fail
  refine (RB.out _).mono ?_
  rintro e w1 ⟨rfl, rfl⟩
  go_wp2_with fail
  refine (mul64_small x y (by have := HL.out; omega) (by omega) (by omega) _).mono ?_
  rintro e w1 ⟨rfl, rfl⟩
  go_wp2_with (go_at_call 65; refine (rem64_any _ _ _ (by omega) (by omega) (by omega) (by omega)).mono ?_; rintro e w1 ⟨rfl, hb⟩)
  go_ret
  exact ⟨ret_int hD.out.symm, hb⟩
end Go.Proofs.Ytnihhchgnkfcgaa
