/- Plain mathematics of spans: scaling, remainders, Bezout coefficients. -/
import Derived.Test.YtnihhchgnkfcgaaPb
set_option linter.unusedSimpArgs false
set_option linter.unusedVariables false
namespace Go.Proofs.Ytnihhchgnkfcgaa

theorem fits4_k (s : Sp) (k : Int) : fits4 s ⟨k, k, 0⟩ = (fitsB s.lo k && fitsB s.hi k) := by
  simp only [fits4]
  cases fitsB s.lo k <;> cases fitsB s.hi k <;> rfl
theorem scale_step {s : Sp} {k : Int} (hs : 0 ≤ s.st) (hs2 : s.st ≤ s.hi - s.lo) (h : fits4 s ⟨k, k, 0⟩ = true) : -4398046511104 ≤ s.st * k ∧ s.st * k ≤ 4398046511104 := by
  obtain ⟨a, _, c, _⟩ := (fits4_iff s _).1 h
  dsimp only at a c
  have e : (s.hi - s.lo) * k = s.hi * k - s.lo * k := Int.sub_mul ..
  rcases Int.le_total 0 k with hk | hk
  · have h3 := Int.mul_le_mul_of_nonneg_right hs2 hk
    have h4 := Int.mul_nonneg hs hk
    omega
  · have h3 := Int.mul_le_mul_of_nonpos_right hs2 hk
    have h4 := Int.mul_nonpos_of_nonneg_of_nonpos hs hk
    omega

theorem gcdM_nonneg (a b : Int) : 0 ≤ gcdM a b := by unfold gcdM; omega
theorem gcdM_pos {a b : Int} (h : b ≠ 0) : 1 ≤ gcdM a b := by
  unfold gcdM
  have : 0 < Int.gcd a b := Int.gcd_pos_of_ne_zero_right _ h
  omega
theorem gcdM_le {a b : Int} (h : 1 ≤ b) : gcdM a b ≤ b := by
  unfold gcdM
  exact Int.le_of_dvd (by omega) (Int.gcd_dvd_right ..)
theorem gcdM_dvd_left (a b : Int) : gcdM a b ∣ a := Int.gcd_dvd_left ..
theorem gcdM_dvd_right (a b : Int) : gcdM a b ∣ b := Int.gcd_dvd_right ..
theorem dvd_gcdM {c a b : Int} (h1 : c ∣ a) (h2 : c ∣ b) : c ∣ gcdM a b := by
  unfold gcdM
  exact Int.dvd_coe_gcd h1 h2

/-- Euclid's algorithm with its coefficients, as the code has it; 'n' bounds its calls. -/
def euclM : Nat → Int → Int → Int × Int × Int
  | 0, a, _ => (a, 1, 0)
  | n + 1, a, b => if b = 0 then (a, 1, 0) else
    let e := euclM n b (a % b)
    (e.1, e.2.2, e.2.1 - a / b * e.2.2)

theorem gcdM_mod (a b : Int) : gcdM b (a % b) = gcdM a b := by
  unfold gcdM
  congr 1
  rw [Int.emod_def, Int.gcd_comm a b]
  apply Nat.dvd_antisymm
  · apply Int.dvd_gcd
    · exact Int.gcd_dvd_left ..
    · have h1 := Int.gcd_dvd_left b (a - b * (a / b))
      have h2 := Int.gcd_dvd_right b (a - b * (a / b))
      have h3 := Int.dvd_add h2 (Int.dvd_mul_of_dvd_left (b := b) (c := a / b) h1)
      simpa using h3
  · apply Int.dvd_gcd
    · exact Int.gcd_dvd_left ..
    · exact Int.dvd_sub (Int.gcd_dvd_right ..) (Int.dvd_mul_of_dvd_left (Int.gcd_dvd_left ..))

theorem gcdM_zero {a : Int} (h : 0 ≤ a) : gcdM a 0 = a := by unfold gcdM; rw [Int.gcd_zero_right]; omega
theorem eucl0 (n : Nat) (a : Int) : euclM n a 0 = (a, 1, 0) := by cases n <;> simp [euclM]

theorem eucl_spec (n : Nat) : ∀ a b : Int, 0 ≤ a → 0 ≤ b → b ≤ n →
    (euclM n a b).1 = gcdM a b ∧ a * (euclM n a b).2.1 + b * (euclM n a b).2.2 = gcdM a b ∧
    -(max 1 b) ≤ (euclM n a b).2.1 ∧ (euclM n a b).2.1 ≤ max 1 b ∧ -(max 1 a) ≤ (euclM n a b).2.2 ∧ (euclM n a b).2.2 ≤ max 1 a := by
  have base : ∀ (n : Nat) (a : Int), 0 ≤ a → (euclM n a 0).1 = gcdM a 0 ∧ a * (euclM n a 0).2.1 + 0 * (euclM n a 0).2.2 = gcdM a 0 ∧
    -(max 1 0) ≤ (euclM n a 0).2.1 ∧ (euclM n a 0).2.1 ≤ max 1 0 ∧ -(max 1 a) ≤ (euclM n a 0).2.2 ∧ (euclM n a 0).2.2 ≤ max 1 a := by
    intro n a ha
    rw [eucl0, gcdM_zero ha]
    refine ⟨rfl, ?_, ?_, ?_, ?_, ?_⟩ <;> dsimp only <;> omega
  induction n with
  | zero =>
    intro a b ha hb hn
    have : b = 0 := by omega
    subst this
    exact base 0 a ha
  | succ n ih =>
    intro a b ha hb hn
    by_cases hz : b = 0
    · subst hz
      exact base _ a ha
    · have hr := Int.emod_nonneg a (b := b) hz
      have hr2 := Int.emod_lt_of_pos a (b := b) (by omega)
      obtain ⟨i1, i2, i3, i4, i5, i6⟩ := ih b (a % b) hb hr (by omega)
      rw [gcdM_mod] at i1 i2
      have hd := Int.mul_ediv_add_emod a b
      have hq : 0 ≤ a / b := Int.ediv_nonneg ha hb
      have he0 : a % b = 0 → (euclM n b (a % b)).2.1 = 1 ∧ (euclM n b (a % b)).2.2 = 0 := by intro h; rw [h, eucl0]; exact ⟨rfl, rfl⟩
      simp only [euclM, hz, if_false]
      generalize euclM n b (a % b) = e at *
      obtain ⟨g, x, y⟩ := e
      dsimp only at *
      have hmax : max 1 b = b := by omega
      rw [hmax] at i5 i6 ⊢
      have h1 : -(a / b * b) ≤ a / b * y := by
        have := Int.mul_le_mul_of_nonneg_left i5 hq
        rw [Int.mul_neg] at this; exact this
      have h2 : a / b * y ≤ a / b * b := Int.mul_le_mul_of_nonneg_left i6 hq
      have h3 : b * (a / b) = a / b * b := Int.mul_comm ..
      refine ⟨i1, ?_, i5, i6, ?_, ?_⟩
      · rw [← i2, Int.mul_sub, ← Int.mul_assoc]
        have h4 : (a % b) * y = a * y - b * (a / b) * y := by
          rw [← Int.sub_mul]
          congr 1
          omega
        rw [h4]
        omega
      · by_cases hr0 : a % b = 0
        · obtain ⟨j1, j2⟩ := he0 hr0
          rw [j1, j2]; omega
        · omega
      · by_cases hr0 : a % b = 0
        · obtain ⟨j1, j2⟩ := he0 hr0
          rw [j1, j2]; omega
        · omega

end Go.Proofs.Ytnihhchgnkfcgaa
