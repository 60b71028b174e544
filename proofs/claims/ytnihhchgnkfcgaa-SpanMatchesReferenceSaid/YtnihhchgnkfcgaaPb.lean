/- Plain mathematics of spans: products. -/
import Derived.Test.YtnihhchgnkfcgaaPlain
set_option linter.unusedSimpArgs false
set_option linter.unusedVariables false
namespace Go.Proofs.Ytnihhchgnkfcgaa
/-- A product fits. -/
def fitsB (a b : Int) : Bool := decide (-1099511627776 ≤ a * b) && decide (a * b ≤ 1099511627776)
theorem fitsB_iff (a b : Int) : fitsB a b = true ↔ -1099511627776 ≤ a * b ∧ a * b ≤ 1099511627776 := by simp [fitsB]
theorem fits_hi0 {a b : Int} (h : (a.natAbs : Int) * (b.natAbs : Int) / 18446744073709551616 = 0) : decide ((a.natAbs : Int) * (b.natAbs : Int) % 18446744073709551616 ≤ 1099511627776) = fitsB a b := by
  rw [← Int.natCast_mul, ← Int.natAbs_mul] at *
  unfold fitsB
  generalize a * b = c at *
  rw [Bool.eq_iff_iff]
  simp only [Bool.and_eq_true, decide_eq_true_eq]
  omega
theorem fits_hi1 {a b : Int} (h : ¬ (a.natAbs : Int) * (b.natAbs : Int) / 18446744073709551616 = 0) : false = fitsB a b := by
  rw [← Int.natCast_mul, ← Int.natAbs_mul] at h
  unfold fitsB
  generalize a * b = c at *
  rw [eq_comm, Bool.eq_false_iff]
  simp only [ne_eq, Bool.and_eq_true, decide_eq_true_eq]
  omega

/-- The four products of ends as the code folds them; 'w' is what a product wraps to. -/
def min4 (a b c d : Int) : Int := min (min (min a b) c) d
def max4 (a b c d : Int) : Int := max (max (max a b) c) d
def fits4 (s t : Sp) : Bool := fitsB s.lo t.lo && fitsB s.lo t.hi && fitsB s.hi t.lo && fitsB s.hi t.hi
theorem fits4_iff (s t : Sp) : fits4 s t = true ↔ (-1099511627776 ≤ s.lo * t.lo ∧ s.lo * t.lo ≤ 1099511627776) ∧ (-1099511627776 ≤ s.lo * t.hi ∧ s.lo * t.hi ≤ 1099511627776) ∧ (-1099511627776 ≤ s.hi * t.lo ∧ s.hi * t.lo ≤ 1099511627776) ∧ (-1099511627776 ≤ s.hi * t.hi ∧ s.hi * t.hi ≤ 1099511627776) := by
  simp only [fits4, Bool.and_eq_true, fitsB_iff, and_assoc]
def mulM (s t : Sp) : Spe :=
  if fits4 s t then ⟨madeM (min4 (s.lo * t.lo) (s.lo * t.hi) (s.hi * t.lo) (s.hi * t.hi)) (max4 (s.lo * t.lo) (s.lo * t.hi) (s.hi * t.lo) (s.hi * t.hi)) (gcdM (gcdM (s.lo * t.st) (t.lo * s.st)) (s.st * t.st)), 0⟩ else ⟨zsp, 2⟩
def scaleM (s : Sp) (k : Int) : Spe :=
  if fitsB s.lo k && fitsB s.hi k then ⟨madeM (min (s.lo * k) (s.hi * k)) (max (s.lo * k) (s.hi * k)) (s.st * k).natAbs, 0⟩ else ⟨zsp, 2⟩
def addM (s t : Sp) : Spe := boundedM (s.lo + t.lo) (s.hi + t.hi) (gcdM s.st t.st)
def subM (s t : Sp) : Spe := boundedM (s.lo - t.hi) (s.hi - t.lo) (gcdM s.st t.st)
def joinM (s t : Sp) : Sp := madeM (min s.lo t.lo) (max s.hi t.hi) (gcdM (gcdM s.st t.st) (s.lo - t.lo))
def modM (s : Sp) (m : Int) : Spe :=
  if 1 ≤ m ∧ m ≤ 1099511627776 then ⟨madeM (s.lo % gcdM s.st m) (m - 1 - (m - 1 - s.lo % gcdM s.st m) % gcdM s.st m) (gcdM s.st m), 0⟩ else ⟨zsp, 1⟩

/-- The steps' products are bounded where the ends' products are. -/
theorem mul_steps {s t : Sp} (hs : 0 ≤ s.st) (hs2 : s.st ≤ s.hi - s.lo) (ht : 0 ≤ t.st) (ht2 : t.st ≤ t.hi - t.lo) (h : fits4 s t = true) :
    (-4398046511104 ≤ s.lo * t.st ∧ s.lo * t.st ≤ 4398046511104) ∧ (-4398046511104 ≤ t.lo * s.st ∧ t.lo * s.st ≤ 4398046511104) ∧ (0 ≤ s.st * t.st ∧ s.st * t.st ≤ 4398046511104) := by
  obtain ⟨a, b, c, d⟩ := (fits4_iff s t).1 h
  have key : ∀ x y z : Int, 0 ≤ y → y ≤ z → (-2199023255552 ≤ x * z ∧ x * z ≤ 2199023255552) → -2199023255552 ≤ x * y ∧ x * y ≤ 2199023255552 := by
    intro x y z h0 h1 h2
    rcases Int.le_total 0 x with hx | hx
    · have h3 := Int.mul_le_mul_of_nonneg_left h1 hx
      have h4 := Int.mul_nonneg hx h0
      omega
    · have h3 := Int.mul_le_mul_of_nonpos_left hx h1
      have h4 := Int.mul_nonpos_of_nonpos_of_nonneg hx h0
      omega
  have e1 : s.lo * (t.hi - t.lo) = s.lo * t.hi - s.lo * t.lo := Int.mul_sub ..
  have e2 : t.lo * (s.hi - s.lo) = s.hi * t.lo - s.lo * t.lo := by rw [Int.mul_sub, Int.mul_comm, Int.mul_comm t.lo]
  have e3 : (s.hi - s.lo) * (t.hi - t.lo) = s.hi * t.hi - s.hi * t.lo - (s.lo * t.hi - s.lo * t.lo) := by rw [Int.sub_mul, Int.mul_sub, Int.mul_sub]
  have k1 := key s.lo t.st (t.hi - t.lo) ht ht2 (by rw [e1]; omega)
  have k2 := key t.lo s.st (s.hi - s.lo) hs hs2 (by rw [e2]; omega)
  have k3 : s.st * t.st ≤ (s.hi - s.lo) * (t.hi - t.lo) := Int.mul_le_mul hs2 ht2 ht (by omega)
  have k4 := Int.mul_nonneg hs ht
  refine ⟨by omega, by omega, k4, ?_⟩
  rw [e3] at k3
  omega

end Go.Proofs.Ytnihhchgnkfcgaa
