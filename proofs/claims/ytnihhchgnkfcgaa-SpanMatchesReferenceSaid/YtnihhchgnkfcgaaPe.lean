/- Plain mathematics of spans: the spans that the statements are about, made of three numbers. -/
import Derived.Test.YtnihhchgnkfcgaaPd
set_option linter.unusedSimpArgs false
set_option linter.unusedVariables false
namespace Go.Proofs.Ytnihhchgnkfcgaa

theorem made_vld {lo hi st k : Int} (h1 : -1099511627776 ≤ lo) (h2 : hi ≤ 1099511627776) (h3 : 1 ≤ st) (h4 : 0 ≤ k) (h5 : hi = lo + st * k) : Vld (madeM lo hi st) := by
  have h6 := Int.mul_nonneg (show 0 ≤ st by omega) h4
  unfold madeM
  by_cases he : lo = hi
  · rw [if_pos he]
    exact ⟨h1, by dsimp only; omega, h2, fun _ => rfl, fun h => by dsimp only at h; omega, by dsimp only; rw [he]; simp⟩
  · rw [if_neg he]
    exact ⟨h1, by dsimp only; omega, h2, fun h => absurd h he, fun _ => h3, ⟨k, by dsimp only; omega⟩⟩
theorem made_st {lo hi st : Int} (h : 1 ≤ st) : 0 ≤ (madeM lo hi st).st ∧ (madeM lo hi st).st ≤ st := by
  unfold madeM; dsimp only; split <;> omega

def smallM (lo st n : Int) : Sp := madeM (lo.tmod 41) (lo.tmod 41 + (st % 9 + 1) * (n % 15)) (st % 9 + 1)
def stepM (st : Int) : Int := if 2147483648 < st then (st % 4096 + 1) * 4096 else st % 4096 + 1
def spanM (lo st n : Int) : Sp := madeM (lo.tmod 549755813888) (lo.tmod 549755813888 + stepM st * (n % 4096)) (stepM st)

theorem tmod_bd (a : Int) {b : Int} (h : 0 < b) : -b < a.tmod b ∧ a.tmod b < b := ⟨Int.lt_tmod_of_pos a h, Int.tmod_lt_of_pos a h⟩
theorem mul_bd {a b A B : Int} (h0 : 0 ≤ a) (h1 : a ≤ A) (h2 : 0 ≤ b) (h3 : b ≤ B) : 0 ≤ a * b ∧ a * b ≤ A * B :=
  ⟨Int.mul_nonneg h0 h2, Int.mul_le_mul h1 h3 h2 (by omega)⟩
theorem small_num (lo st n : Int) : -40 ≤ lo.tmod 41 ∧ lo.tmod 41 ≤ 40 ∧ 1 ≤ st % 9 + 1 ∧ st % 9 + 1 ≤ 9 ∧ 0 ≤ n % 15 ∧ n % 15 ≤ 14 ∧ 0 ≤ (st % 9 + 1) * (n % 15) ∧ (st % 9 + 1) * (n % 15) ≤ 126 := by
  have a := tmod_bd lo (b := 41) (by omega)
  have b := mul_bd (a := st % 9 + 1) (b := n % 15) (A := 9) (B := 14) (by omega) (by omega) (by omega) (by omega)
  omega
theorem small_vld (lo st n : Int) : Vld (smallM lo st n) := by
  obtain ⟨a, b, c, d, e, f, g, h⟩ := small_num lo st n
  exact made_vld (by omega) (by omega) c e rfl
theorem small_bd (lo st n : Int) : -40 ≤ (smallM lo st n).lo ∧ (smallM lo st n).hi ≤ 166 ∧ 0 ≤ (smallM lo st n).st ∧ (smallM lo st n).st ≤ 9 := by
  obtain ⟨a, b, c, d, e, f, g, h⟩ := small_num lo st n
  have := made_st (lo := lo.tmod 41) (hi := lo.tmod 41 + (st % 9 + 1) * (n % 15)) c
  unfold smallM
  refine ⟨a, ?_, this.1, by omega⟩
  show lo.tmod 41 + _ ≤ _
  omega
theorem step_bd (st : Int) : 1 ≤ stepM st ∧ stepM st ≤ 16777216 := by unfold stepM; split <;> omega
theorem span_num (lo st n : Int) : -549755813887 ≤ lo.tmod 549755813888 ∧ lo.tmod 549755813888 ≤ 549755813887 ∧ 1 ≤ stepM st ∧ stepM st ≤ 16777216 ∧ 0 ≤ n % 4096 ∧ n % 4096 ≤ 4095 ∧ 0 ≤ stepM st * (n % 4096) ∧ stepM st * (n % 4096) ≤ 68702699520 := by
  have a := tmod_bd lo (b := 549755813888) (by omega)
  have s := step_bd st
  have b := mul_bd (a := stepM st) (b := n % 4096) (A := 16777216) (B := 4095) (by omega) (by omega) (by omega) (by omega)
  omega
theorem span_vld (lo st n : Int) : Vld (spanM lo st n) := by
  obtain ⟨a, b, c, d, e, f, g, h⟩ := span_num lo st n
  exact made_vld (by omega) (by omega) c e rfl
theorem span_bd (lo st n : Int) : -549755813887 ≤ (spanM lo st n).lo ∧ (spanM lo st n).hi ≤ 618458513407 ∧ 0 ≤ (spanM lo st n).st ∧ (spanM lo st n).st ≤ 16777216 := by
  obtain ⟨a, b, c, d, e, f, g, h⟩ := span_num lo st n
  have := made_st (lo := lo.tmod 549755813888) (hi := lo.tmod 549755813888 + stepM st * (n % 4096)) c
  unfold spanM
  refine ⟨a, ?_, this.1, by omega⟩
  show lo.tmod 549755813888 + _ ≤ _
  omega

end Go.Proofs.Ytnihhchgnkfcgaa
