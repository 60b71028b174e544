/- Plain mathematics of spans: how many integers of an interval both spans have (the statement SpanMeets). -/
import Derived.Test.YtnihhchgnkfcgaaPe
set_option linter.unusedSimpArgs false
set_option linter.unusedVariables false
namespace Go.Proofs.Ytnihhchgnkfcgaa

/-- How many of the numbers -50 .. -50 + j - 1 are elements of both spans. -/
def cntM (s t : Sp) : Nat → Int
  | 0 => 0
  | j + 1 => cntM s t j + if (hasB s ((j : Int) - 50) && hasB t ((j : Int) - 50)) = true then 1 else 0
theorem cntM_bd (s t : Sp) (j : Nat) : 0 ≤ cntM s t j ∧ cntM s t j ≤ j := by
  induction j with
  | zero => simp [cntM]
  | succ j ih => simp only [cntM]; split <;> omega

theorem cntM_none {s t : Sp} (h : ∀ n, ¬ (Mem s n ∧ Mem t n)) (j : Nat) : cntM s t j = 0 := by
  induction j with
  | zero => rfl
  | succ j ih =>
    simp only [cntM, ih]
    rw [if_neg]
    · rfl
    · intro h2
      simp only [Bool.and_eq_true, hasB_iff] at h2
      exact h _ h2

/-- How many elements of r are less than n. -/
def lessM (r : Sp) (n : Int) : Int := if n ≤ r.lo then 0 else if n ≤ r.hi then (if r.st = 0 then 1 else (n - 1 - r.lo) / r.st + 1) else sizeM r

theorem ediv_pred {a b : Int} (hb : 1 ≤ b) : a / b = (a - 1) / b + if a % b = 0 then 1 else 0 := by
  have h1 := Int.mul_ediv_add_emod a b
  have h2 := Int.emod_nonneg a (b := b) (by omega)
  have h3 := Int.emod_lt_of_pos a (b := b) (by omega)
  generalize a / b = q at *
  generalize a % b = r at *
  have h4 : (a - 1) / b = if r = 0 then q - 1 else q := by
    refine (Int.ediv_eq_iff_of_pos (by omega)).2 ?_
    split
    · rw [Int.sub_mul, Int.mul_comm]; omega
    · rw [Int.mul_comm]; omega
  rw [h4]
  split <;> omega

theorem lessM_step {r : Sp} (hr : Vld r) (n : Int) : lessM r (n + 1) = lessM r n + if hasB r n = true then 1 else 0 := by
  have h0 := hr.le
  have hh : (hasB r n = true) ↔ Mem r n := hasB_iff r n
  by_cases c1 : n < r.lo
  · have : ¬ Mem r n := fun h => by have := h.1; omega
    rw [if_neg (fun h => this (hh.1 h))]
    unfold lessM; rw [if_pos (by omega), if_pos (by omega)]; rfl
  by_cases c2 : r.hi < n
  · have : ¬ Mem r n := fun h => by have := h.2.1; omega
    rw [if_neg (fun h => this (hh.1 h))]
    unfold lessM; rw [if_neg (by omega), if_neg (by omega), if_neg (by omega), if_neg (by omega)]; omega
  by_cases hz : r.lo = r.hi
  · have hs := hr.one hz
    have hn : n = r.lo := by omega
    have : Mem r n := ⟨by omega, by omega, by rw [hn]; simp⟩
    rw [if_pos (hh.2 this)]
    have e1 : lessM r (n + 1) = 1 := by unfold lessM sizeM; rw [if_neg (by omega), if_neg (by omega), if_pos hs]
    have e2 : lessM r n = 0 := by unfold lessM; rw [if_pos (by omega)]
    rw [e1, e2]; rfl
  · have hp := hr.pos (by omega)
    have hm : Mem r n ↔ (n - r.lo) % r.st = 0 := by
      unfold Mem
      rw [Int.dvd_iff_emod_eq_zero]
      constructor
      · exact fun h => h.2.2
      · exact fun h => ⟨by omega, by omega, h⟩
    have e1 : lessM r (n + 1) = (n - r.lo) / r.st + 1 := by
      unfold lessM
      rw [if_neg (by omega)]
      by_cases c3 : n + 1 ≤ r.hi
      · rw [if_pos c3, if_neg (by omega)]; congr 2; omega
      · rw [if_neg c3]; unfold sizeM; rw [if_neg (by omega)]; congr 2; omega
    have e2 : lessM r n = (n - r.lo - 1) / r.st + 1 := by
      unfold lessM
      by_cases c3 : n ≤ r.lo
      · rw [if_pos c3]
        have : n - r.lo - 1 = -1 := by omega
        rw [this]
        have : (-1 : Int) / r.st = -1 := (Int.ediv_eq_iff_of_pos (by omega)).2 (by omega)
        omega
      · rw [if_neg c3, if_pos (by omega), if_neg (by omega)]
        have : n - 1 - r.lo = n - r.lo - 1 := by omega
        rw [this]
    rw [e1, e2, ediv_pred (a := n - r.lo) hp]
    by_cases c4 : (n - r.lo) % r.st = 0
    · rw [if_pos c4, if_pos (hh.2 (hm.2 c4))]
    · rw [if_neg c4, if_neg (fun h => c4 (hm.1 (hh.1 h)))]; omega

theorem cntM_meet {s t r : Sp} (hr : Vld r) (h : ∀ n, Mem r n ↔ Mem s n ∧ Mem t n) (hlo : -50 ≤ r.lo) (j : Nat) : cntM s t j = lessM r ((j : Int) - 50) := by
  induction j with
  | zero =>
    unfold lessM; rw [if_pos (by omega)]; rfl
  | succ j ih =>
    have e : ((j + 1 : Nat) : Int) - 50 = ((j : Int) - 50) + 1 := by omega
    rw [e, lessM_step hr, ← ih]
    simp only [cntM]
    have : (hasB s ((j : Int) - 50) && hasB t ((j : Int) - 50)) = hasB r ((j : Int) - 50) := by
      rw [Bool.eq_iff_iff, Bool.and_eq_true, hasB_iff, hasB_iff, hasB_iff, h]
    rw [this]

/-- What SpanMeets finds in the end. -/
theorem meets_end {s t : Sp} (hs : Vld s) (ht : Vld t) (h1 : s.st ≤ 2147483648) (h2 : t.st ≤ 2147483648) (b1 : -50 ≤ s.lo) (b2 : s.hi ≤ 200) :
    ((meetM s t).2 = false → cntM s t 251 = 0 ∧ (meetM s t).1 = zsp) ∧ ((meetM s t).2 = true → Vld (meetM s t).1 ∧ sizeM (meetM s t).1 = cntM s t 251 ∧ -50 ≤ (meetM s t).1.lo ∧ (meetM s t).1.hi ≤ 200) := by
  have H := meetM_spec hs ht h1 h2
  refine ⟨fun h => ⟨cntM_none (H.2 h).2 _, (H.2 h).1⟩, fun h => ?_⟩
  obtain ⟨hv, hm⟩ := H.1 h
  have m1 := ((hm _).1 (mem_self_lo hv)).1.1
  have m2 := ((hm _).1 (mem_self_hi hv)).1.2.1
  refine ⟨hv, ?_, by omega, by omega⟩
  rw [cntM_meet hv hm (by omega)]
  unfold lessM
  have := hv.le
  rw [if_neg (by omega), if_neg (by omega)]

/-- In each round the two tests agree. -/
theorem meets_round {s t : Sp} (hs : Vld s) (ht : Vld t) (h1 : s.st ≤ 2147483648) (h2 : t.st ≤ 2147483648) (n : Int) :
    (hasB s n && hasB t n) = ((meetM s t).2 && hasB (meetM s t).1 n) := by
  have H := meetM_spec hs ht h1 h2
  cases hb : (meetM s t).2
  · have := (H.2 hb).2 n
    rw [Bool.false_and, Bool.eq_false_iff]
    intro h
    rw [Bool.and_eq_true, hasB_iff, hasB_iff] at h
    exact this h
  · rw [Bool.true_and, Bool.eq_iff_iff, Bool.and_eq_true, hasB_iff, hasB_iff, hasB_iff]
    exact ((H.1 hb).2 n).symm

end Go.Proofs.Ytnihhchgnkfcgaa
