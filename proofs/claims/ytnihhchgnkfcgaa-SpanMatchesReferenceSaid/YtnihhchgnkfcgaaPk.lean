/- Plain mathematics of spans: results are least, element by element (SpanLeast). -/
import Derived.Test.YtnihhchgnkfcgaaPj
import Derived.Test.YtnihhchgnkfcgaaPi
set_option linter.unusedSimpArgs false
set_option linter.unusedVariables false
namespace Go.Proofs.Ytnihhchgnkfcgaa

/-- The number of elements. -/
def cntE (s : Sp) : Nat := (sizeM s).toNat
theorem elM_lt {s : Sp} (hs : Vld s) (j : Nat) : elM s j ≤ s.hi ↔ j < cntE s := by
  have h0 := hs.st0
  have hle := hs.le
  unfold elM cntE sizeM
  by_cases hz : s.st = 0
  · have h1 : s.lo = s.hi := by
      by_cases e : s.lo < s.hi
      · have := hs.pos e; omega
      · omega
    rw [if_pos hz, hz]
    have hm : max (0 : Int) 1 = 1 := by omega
    rw [hm]
    omega
  · rw [if_neg hz]
    have hm : max s.st 1 = s.st := by omega
    rw [hm]
    have hq : 0 ≤ (s.hi - s.lo) / s.st := Int.ediv_nonneg (by omega) (by omega)
    have key : (j : Int) * s.st ≤ s.hi - s.lo ↔ (j : Int) ≤ (s.hi - s.lo) / s.st := (Int.le_ediv_iff_mul_le (by omega)).symm
    constructor
    · intro h
      have := key.1 (by omega)
      omega
    · intro h
      have := key.2 (by omega)
      omega
theorem mem_el {s : Sp} (hs : Vld s) (a : Int) : Mem s a ↔ ∃ j, j < cntE s ∧ a = elM s j := by
  constructor
  · intro ⟨h1, h2, h3⟩
    have h0 := hs.st0
    by_cases hz : s.st = 0
    · rw [hz] at h3
      have : a - s.lo = 0 := Int.zero_dvd.1 h3
      refine ⟨0, (elM_lt hs 0).1 ?_, ?_⟩ <;> unfold elM <;> simp <;> omega
    · obtain ⟨q, hq⟩ := h3
      have hm : max s.st 1 = s.st := by omega
      have hq0 : 0 ≤ q := by
        have : s.st * (-1) < s.st * q := by omega
        have := Int.lt_of_mul_lt_mul_left this (by omega)
        omega
      have he : a = elM s q.toNat := by
        unfold elM
        rw [hm, Int.toNat_of_nonneg hq0, Int.mul_comm]
        omega
      exact ⟨q.toNat, (elM_lt hs _).1 (by omega), he⟩
  · rintro ⟨j, hj, rfl⟩
    exact (elM_mem hs j ((elM_lt hs j).2 hj)).2

/-- Do the first j elements pass? -/
def allTo (s : Sp) (f : Int → Bool) (j : Nat) : Bool := (List.range j).all fun k => f (elM s k)
theorem allTo_zero (s : Sp) (f : Int → Bool) : allTo s f 0 = true := rfl
theorem allTo_succ (s : Sp) (f : Int → Bool) (j : Nat) : allTo s f (j + 1) = (allTo s f j && f (elM s j)) := by
  unfold allTo
  rw [List.range_succ, List.all_append]
  simp
theorem allTo_iff {s : Sp} (hs : Vld s) (f : Int → Bool) : allTo s f (cntE s) = true ↔ ∀ a, Mem s a → f a = true := by
  unfold allTo
  rw [List.all_eq_true]
  constructor
  · intro h a ha
    obtain ⟨j, hj, rfl⟩ := (mem_el hs a).1 ha
    exact h j (List.mem_range.2 hj)
  · intro h j hj
    exact h _ ((mem_el hs _).2 ⟨j, List.mem_range.1 hj, rfl⟩)
/-- .. of all pairs. -/
def allP (s t : Sp) (f : Int → Int → Bool) : Bool := allTo s (fun a => allTo t (f a) (cntE t)) (cntE s)
theorem allP_iff {s t : Sp} (hs : Vld s) (ht : Vld t) (f : Int → Int → Bool) : allP s t f = true ↔ ∀ a b, Mem s a → Mem t b → f a b = true := by
  unfold allP
  rw [allTo_iff hs]
  constructor
  · intro h a b ha hb; exact (allTo_iff ht _).1 (h a ha) b hb
  · intro h a ha; exact (allTo_iff ht _).2 fun b hb => h a b ha hb
theorem least_add {s t r : Sp} (hs : Vld s) (ht : Vld t) (h : (addM s t).e = 0) : allP s t (fun a b => hasB r (a + b)) = insideB (addM s t).s r := by
  rw [Bool.eq_iff_iff, allP_iff hs ht, inside_iff (add_vld hs ht h)]
  constructor
  · intro k; exact add_least hs ht h fun a b ha hb => (hasB_iff _ _).1 (k a b ha hb)
  · intro k a b ha hb; exact (hasB_iff _ _).2 (k _ (add_mem h ha hb))
theorem least_sub {s t r : Sp} (hs : Vld s) (ht : Vld t) (h : (subM s t).e = 0) : allP s t (fun a b => hasB r (a - b)) = insideB (subM s t).s r := by
  rw [Bool.eq_iff_iff, allP_iff hs ht, inside_iff (sub_vld hs ht h)]
  constructor
  · intro k; exact sub_least hs ht h fun a b ha hb => (hasB_iff _ _).1 (k a b ha hb)
  · intro k a b ha hb; exact (hasB_iff _ _).2 (k _ (sub_mem ht h ha hb))
theorem least_mul {s t r : Sp} (hs : Vld s) (ht : Vld t) (h : (mulM s t).e = 0) : allP s t (fun a b => hasB r (a * b)) = insideB (mulM s t).s r := by
  rw [Bool.eq_iff_iff, allP_iff hs ht, inside_iff (mul_vld hs ht h)]
  constructor
  · intro k; exact mul_least hs ht h fun a b ha hb => (hasB_iff _ _).1 (k a b ha hb)
  · intro k a b ha hb; exact (hasB_iff _ _).2 (k _ (mul_mem hs ht h ha hb))
/-- .. of the elements of both, as the loops mix them. -/
def allJ (s t r : Sp) (j : Nat) : Bool := allTo s (fun a => hasB r a && allTo t (hasB r) (cntE t)) j
theorem least_join {s t r : Sp} (hs : Vld s) (ht : Vld t) : allJ s t r (cntE s) = insideB (joinM s t) r := by
  unfold allJ
  rw [Bool.eq_iff_iff, allTo_iff hs, inside_iff (join_vld hs ht)]
  constructor
  · intro k
    refine join_least hs ht (fun a ha => ?_) (fun b hb => ?_)
    · have := k a ha
      rw [Bool.and_eq_true] at this
      exact (hasB_iff _ _).1 this.1
    · have := k s.lo (mem_self_lo hs)
      rw [Bool.and_eq_true] at this
      exact (hasB_iff _ _).1 ((allTo_iff ht _).1 this.2 b hb)
  · intro k a ha
    rw [Bool.and_eq_true]
    exact ⟨(hasB_iff _ _).2 (k _ (join_left hs ht _ ha)), (allTo_iff ht _).2 fun b hb => (hasB_iff _ _).2 (k _ (join_right hs ht _ hb))⟩
/-- The great span whose steps are drawn. -/
def bigM (r : Sp) (step n : Int) : Sp := ⟨r.lo - step * n, r.lo - step * n + step * 4000000, step⟩
theorem big_vld {r : Sp} {step n : Int} (h1 : 1 ≤ step) (h2 : step ≤ 12) (h3 : 0 ≤ step * n) (h4 : step * n ≤ 480) (h5 : -100000 ≤ r.lo) (h6 : r.lo ≤ 100000) : Vld (bigM r step n) := by
  unfold bigM
  refine ⟨?_, ?_, ?_, fun h => ?_, fun h => h1, ⟨4000000, ?_⟩⟩ <;> dsimp only at * <;> omega
theorem min4_bd {a b c d L H : Int} (a1 : L ≤ a) (b1 : L ≤ b) (c1 : L ≤ c) (d1 : L ≤ d) (a2 : a ≤ H) (b2 : b ≤ H) (c2 : c ≤ H) (d2 : d ≤ H) : L ≤ min4 a b c d ∧ max4 a b c d ≤ H ∧ min4 a b c d ≤ H ∧ L ≤ max4 a b c d := by
  unfold min4 max4; omega
/-- Four results, none with an error, all small. -/
structure LeR (s t : Sp) (r : Nat → Sp) : Prop where
  v : ∀ k, Vld (r k)
  lo : ∀ k, -100000 ≤ (r k).lo
  hi : ∀ k, (r k).hi ≤ 100000
end Go.Proofs.Ytnihhchgnkfcgaa
