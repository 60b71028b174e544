/- Plain mathematics of spans: the meet as the code computes it, and that its elements are those that both spans have. -/
import Derived.Test.YtnihhchgnkfcgaaPc
set_option linter.unusedSimpArgs false
set_option linter.unusedVariables false
namespace Go.Proofs.Ytnihhchgnkfcgaa

/-- The greatest common divisor and the first coefficient, of two steps. -/
def egM (s t : Sp) : Int × Int × Int := euclM t.st.toNat s.st t.st
def mLo (s t : Sp) : Int := max s.lo t.lo
def mHi (s t : Sp) : Int := min s.hi t.hi
def mM (s t : Sp) : Int := t.st / (egM s t).1
def mK0 (s t : Sp) : Int := (t.lo - s.lo) / (egM s t).1 * (egM s t).2.1 % mM s t
def mFirst (s t : Sp) : Int := -((s.lo - mLo s t) / s.st)
def mLast (s t : Sp) : Int := (mHi s t - s.lo) / s.st
def mK (s t : Sp) : Int := mK0 s t + max 0 (-((mK0 s t - mFirst s t) / mM s t)) * mM s t
def mL (s t : Sp) : Int := mLast s t - (mLast s t - mK s t) % mM s t
def meetC (s t : Sp) : Sp × Bool :=
  if mHi s t < mLo s t then (zsp, false)
  else if t.st = 0 then (if hasB s t.lo then (t, true) else (zsp, false))
  else if (t.lo - s.lo) % (egM s t).1 ≠ 0 then (zsp, false)
  else if mLast s t < mK s t then (zsp, false)
  else (⟨s.lo + s.st * mK s t, s.lo + s.st * mL s t, if mK s t < mL s t then s.st * mM s t else 0⟩, true)
def meetM (s t : Sp) : Sp × Bool := if s.st < t.st then meetC t s else meetC s t

theorem crt {a m x y q d : Int} (h : a * x + m * y = 1) : m ∣ a * q - d ↔ m ∣ q - d * x := by
  constructor
  · intro h1
    have h2 := Int.dvd_mul_of_dvd_left (c := x) h1
    have h3 : q - d * x = (a * q - d) * x + m * (y * q) := by
      have : q = (a * x + m * y) * q := by rw [h, Int.one_mul]
      have e : (a * x + m * y) * q = a * q * x + m * (y * q) := by
        rw [Int.add_mul, Int.mul_assoc, Int.mul_comm x q, ← Int.mul_assoc, Int.mul_assoc m y q]
      rw [Int.sub_mul]; omega
    rw [h3]
    exact Int.dvd_add h2 (Int.dvd_mul_right ..)
  · intro h1
    have h2 := Int.dvd_mul_of_dvd_right (b := a) h1
    have h3 : a * q - d = a * (q - d * x) + -(m * (y * d)) := by
      have : d = (a * x + m * y) * d := by rw [h, Int.one_mul]
      have e : (a * x + m * y) * d = a * (d * x) + m * (y * d) := by
        rw [Int.add_mul, Int.mul_assoc, Int.mul_comm x d, Int.mul_assoc]
      rw [Int.mul_sub]; omega
    rw [h3]
    exact Int.dvd_add h2 (Int.dvd_neg.2 (Int.dvd_mul_right ..))

theorem least_ge {k0 f m : Int} (h0 : 0 ≤ k0) (h1 : k0 < m) (hf : 0 ≤ f) :
    m ∣ (k0 + max 0 (-((k0 - f) / m)) * m) - k0 ∧ f ≤ k0 + max 0 (-((k0 - f) / m)) * m ∧ k0 ≤ k0 + max 0 (-((k0 - f) / m)) * m ∧ k0 + max 0 (-((k0 - f) / m)) * m ≤ k0 + f + m ∧
    ∀ q, f ≤ q → m ∣ q - k0 → k0 + max 0 (-((k0 - f) / m)) * m ≤ q := by
  have hm : 0 < m := by omega
  have hd := Int.mul_ediv_add_emod (k0 - f) m
  have hr := Int.emod_nonneg (k0 - f) (b := m) (by omega)
  have hr2 := Int.emod_lt_of_pos (k0 - f) hm
  generalize (k0 - f) / m = c at *
  generalize (k0 - f) % m = r at *
  have key : ∀ z : Int, -m < m * z → 0 ≤ z := by
    intro z hz
    rcases Int.lt_or_le z 0 with h | h
    · have := Int.mul_le_mul_of_nonneg_left (show z ≤ -1 by omega) (show 0 ≤ m by omega)
      omega
    · exact h
  rcases Int.le_total 0 c with hc | hc
  · have hmax : max 0 (-c) = 0 := by omega
    rw [hmax]
    have := Int.mul_nonneg (show 0 ≤ m by omega) hc
    refine ⟨by simp, by omega, by omega, by omega, fun q hq ⟨z, hz⟩ => ?_⟩
    have := key z (by omega)
    have := Int.mul_nonneg (show 0 ≤ m by omega) this
    omega
  · have hmax : max 0 (-c) = -c := by omega
    rw [hmax]
    have e : -c * m = -(m * c) := by rw [Int.neg_mul, Int.mul_comm]
    rw [e]
    refine ⟨⟨-c, by rw [Int.mul_neg]; omega⟩, by omega, ?_, by omega, fun q hq ⟨z, hz⟩ => ?_⟩
    · have := Int.mul_le_mul_of_nonneg_left hc (show 0 ≤ m by omega)
      rw [Int.mul_zero] at this
      omega
    · have h2 : m * (z + c) = m * z + m * c := Int.mul_add ..
      have h3 := key (z + c) (by omega)
      have h4 := Int.mul_nonneg (show 0 ≤ m by omega) h3
      omega

/-- What the walk needs to know of the numbers on its way. -/
structure MB (s t : Sp) : Prop where
  g1 : 1 ≤ (egM s t).1
  g2 : (egM s t).1 ≤ 2147483648
  x1 : -2147483648 ≤ (egM s t).2.1
  x2 : (egM s t).2.1 ≤ 2147483648
  m1 : 1 ≤ mM s t
  m2 : mM s t ≤ 2147483648
  k1 : 0 ≤ mK0 s t
  k2 : mK0 s t < mM s t
  f1 : 0 ≤ mFirst s t
  f2 : mFirst s t ≤ 2199023255552
  l1 : 0 ≤ mLast s t
  l2 : mLast s t ≤ 2199023255552
  k3 : 0 ≤ mK s t
  k4 : mK s t ≤ 4398046511104
  d1 : -2199023255552 ≤ (t.lo - s.lo) / (egM s t).1
  d2 : (t.lo - s.lo) / (egM s t).1 ≤ 2199023255552

theorem mb {s t : Sp} (hs : Vld s) (ht : Vld t) (h1 : 1 ≤ t.st) (h2 : t.st ≤ s.st) (h3 : s.st ≤ 2147483648) (h4 : mLo s t ≤ mHi s t) : MB s t ∧ (egM s t).1 = gcdM s.st t.st ∧ s.st * (egM s t).2.1 + t.st * (egM s t).2.2 = gcdM s.st t.st := by
  obtain ⟨i1, i2, i3, i4, i5, i6⟩ := eucl_spec t.st.toNat s.st t.st (by omega) (by omega) (by omega)
  have g1 := gcdM_pos (a := s.st) (b := t.st) (by omega)
  have g2 := gcdM_le (a := s.st) h1
  have a1 := hs.lo; have a2 := hs.hi; have a3 := hs.le
  have b1 := ht.lo; have b2 := ht.hi; have b3 := ht.le
  have hg : (egM s t).1 = gcdM s.st t.st := i1
  have d1 := ediv_bd (a := t.lo - s.lo) g1
  have m1 : 1 ≤ mM s t := by
    unfold mM; rw [hg]
    have := Int.ediv_mul_cancel (gcdM_dvd_right s.st t.st)
    rcases Int.lt_or_le (t.st / gcdM s.st t.st) 1 with h | h
    · have := Int.mul_le_mul_of_nonneg_right (show t.st / gcdM s.st t.st ≤ 0 by omega) (show 0 ≤ gcdM s.st t.st by omega)
      omega
    · exact h
  have m2 : mM s t ≤ t.st := by unfold mM; rw [hg]; exact ((ediv_bd g1).1 (by omega)).2
  have f0 := ediv_bd (a := s.lo - mLo s t) (b := s.st) (by omega)
  have l0 := ediv_bd (a := mHi s t - s.lo) (b := s.st) (by omega)
  have q1 : s.lo ≤ mLo s t := by unfold mLo; omega
  have q2 : mLo s t ≤ 1099511627776 := by unfold mLo; omega
  have q3 : mHi s t ≤ 1099511627776 := by unfold mHi; omega
  have k1 := Int.emod_nonneg ((t.lo - s.lo) / (egM s t).1 * (egM s t).2.1) (b := mM s t) (by omega)
  have k2 := Int.emod_lt_of_pos ((t.lo - s.lo) / (egM s t).1 * (egM s t).2.1) (b := mM s t) (by omega)
  have f1 : 0 ≤ mFirst s t ∧ mFirst s t ≤ 2199023255552 := by unfold mFirst; omega
  have l1 : 0 ≤ mLast s t ∧ mLast s t ≤ 2199023255552 := by unfold mLast; omega
  obtain ⟨_, j2, j3, j4, _⟩ := least_ge (k0 := mK0 s t) (f := mFirst s t) (m := mM s t) k1 k2 f1.1
  have kk : 0 ≤ mK s t ∧ mK s t ≤ 4398046511104 := by
    have : mK0 s t < mM s t := k2
    have : 0 ≤ mK0 s t := k1
    unfold mK; omega
  refine ⟨⟨by omega, by omega, ?_, ?_, m1, by omega, k1, k2, f1.1, f1.2, l1.1, l1.2, kk.1, kk.2, ?_, ?_⟩, hg, i2⟩
  · show -2147483648 ≤ (euclM t.st.toNat s.st t.st).2.1; omega
  · show (euclM t.st.toNat s.st t.st).2.1 ≤ 2147483648; omega
  · rw [hg]; omega
  · rw [hg]; omega

/-- What a meet of two spans is. -/
def IsMeet (s t : Sp) (r : Sp × Bool) : Prop :=
  (r.2 = true → Vld r.1 ∧ ∀ n, Mem r.1 n ↔ Mem s n ∧ Mem t n) ∧ (r.2 = false → r.1 = zsp ∧ ∀ n, ¬ (Mem s n ∧ Mem t n))

theorem mem_self_lo {s : Sp} (h : Vld s) : Mem s s.lo := ⟨Int.le_refl _, h.le, by simp⟩
theorem mem_self_hi {s : Sp} (h : Vld s) : Mem s s.hi := ⟨h.le, Int.le_refl _, h.dvd⟩

theorem isMeet_none {s t : Sp} (h : ∀ n, ¬ (Mem s n ∧ Mem t n)) : IsMeet s t (zsp, false) := ⟨(fun h => by cases h), fun _ => ⟨rfl, h⟩⟩

theorem meetC_spec {s t : Sp} (hs : Vld s) (ht : Vld t) (h2 : t.st ≤ s.st) (h3 : s.st ≤ 2147483648) : IsMeet s t (meetC s t) := by
  unfold meetC
  by_cases c1 : mHi s t < mLo s t
  · rw [if_pos c1]
    refine isMeet_none fun n ⟨⟨a1, a2, _⟩, ⟨b1, b2, _⟩⟩ => ?_
    unfold mHi mLo at c1; omega
  rw [if_neg c1]
  by_cases c2 : t.st = 0
  · rw [if_pos c2]
    have he : t.lo = t.hi := by
      rcases Int.lt_or_le t.lo t.hi with h | h
      · have := ht.pos h; omega
      · have := ht.le; omega
    cases hh : hasB s t.lo
    · simp only [Bool.false_eq_true, if_false]
      refine isMeet_none fun n ⟨a, b1, b2, _⟩ => ?_
      have : n = t.lo := by omega
      rw [this, ← hasB_iff, hh] at a
      cases a
    · simp only [if_true]
      refine ⟨fun _ => ⟨ht, fun n => ⟨fun h => ⟨?_, h⟩, fun h => h.2⟩⟩, (fun h => by cases h)⟩
      have : n = t.lo := by
        have q1 : t.lo ≤ n := h.1
        have q2 : n ≤ t.hi := h.2.1
        omega
      rw [this, ← hasB_iff, hh]
  rw [if_neg c2]
  have h1 : 1 ≤ t.st := by have := ht.st0; omega
  obtain ⟨B, hg, hbez⟩ := mb hs ht h1 h2 h3 (by omega)
  have gs : gcdM s.st t.st ∣ s.st := gcdM_dvd_left ..
  have gt : gcdM s.st t.st ∣ t.st := gcdM_dvd_right ..
  have g1 := B.g1
  rw [hg] at g1
  by_cases c3 : (t.lo - s.lo) % (egM s t).1 ≠ 0
  · rw [if_pos c3]
    refine isMeet_none fun n ⟨⟨_, _, a⟩, ⟨_, _, b⟩⟩ => c3 ?_
    rw [hg]
    have e : t.lo - s.lo = (n - s.lo) - (n - t.lo) := by omega
    rw [e]
    exact Int.emod_eq_zero_of_dvd (Int.dvd_sub (Int.dvd_trans gs a) (Int.dvd_trans gt b))
  rw [if_neg c3]
  have hD : gcdM s.st t.st ∣ t.lo - s.lo := by
    rw [← hg]; exact Int.dvd_of_emod_eq_zero (by simpa using c3)
  -- the numbers behind the greatest common divisor
  obtain ⟨a, ha⟩ := gs
  obtain ⟨d, hd⟩ := hD
  have hm : t.st = gcdM s.st t.st * mM s t := by unfold mM; rw [hg]; exact (Int.mul_ediv_cancel' gt).symm
  have hdd : (t.lo - s.lo) / (egM s t).1 = d := by rw [hg]; conv => lhs; rw [hd]
                                                   exact Int.mul_ediv_cancel_left _ (by omega)
  generalize hx : (egM s t).2.1 = x at *
  generalize hy : (egM s t).2.2 = y at *
  generalize hgg : gcdM s.st t.st = g at *
  have hk0 : mK0 s t = d * x % mM s t := by unfold mK0; rw [hdd, hx]
  have m1 := B.m1
  have hbez1 : a * x + mM s t * y = 1 := by
    have e : g * (a * x + mM s t * y) = g * 1 := by
      rw [Int.mul_one, Int.mul_add, ← Int.mul_assoc, ← Int.mul_assoc, ← ha, ← hm]; exact hbez
    exact Int.eq_of_mul_eq_mul_left (by omega) e
  -- an element of both, by its number in s
  have key : ∀ q : Int, t.st ∣ s.lo + s.st * q - t.lo ↔ mM s t ∣ q - mK0 s t := by
    intro q
    have e1 : s.lo + s.st * q - t.lo = g * (a * q - d) := by
      rw [Int.mul_sub, ← Int.mul_assoc, ← ha, ← hd]; omega
    rw [e1, hm]
    rw [Int.mul_dvd_mul_iff_left (by omega)]
    rw [crt hbez1, hk0]
    have e2 : q - d * x % mM s t = (q - d * x) + mM s t * (d * x / mM s t) := by
      have := Int.mul_ediv_add_emod (d * x) (mM s t); omega
    rw [e2]
    constructor
    · intro h; exact Int.dvd_add h (Int.dvd_mul_right ..)
    · intro h
      have := Int.dvd_sub h (Int.dvd_mul_right (mM s t) (d * x / mM s t))
      simpa using this
  obtain ⟨l1, l2, l3, l4, l5⟩ := least_ge (k0 := mK0 s t) (f := mFirst s t) (m := mM s t) B.k1 B.k2 B.f1
  have hK : mK0 s t + max 0 (-((mK0 s t - mFirst s t) / mM s t)) * mM s t = mK s t := rfl
  rw [hK] at l1 l2 l3 l4
  have l5' : ∀ q, mFirst s t ≤ q → mM s t ∣ q - mK0 s t → mK s t ≤ q := by rw [← hK]; exact l5
  have sp : 1 ≤ s.st := by omega
  -- the bounds of a number in s
  have hF : ∀ q : Int, mFirst s t ≤ q ↔ mLo s t ≤ s.lo + s.st * q := by
    intro q
    have e1 := Int.mul_ediv_add_emod (s.lo - mLo s t) s.st
    have e2 := Int.emod_nonneg (s.lo - mLo s t) (b := s.st) (by omega)
    have e3 := Int.emod_lt_of_pos (s.lo - mLo s t) (b := s.st) (by omega)
    unfold mFirst
    generalize (s.lo - mLo s t) / s.st = c at *
    constructor
    · intro h
      have := Int.mul_le_mul_of_nonneg_left (show -c ≤ q by omega) (show 0 ≤ s.st by omega)
      rw [Int.mul_neg] at this; omega
    · intro h
      rcases Int.lt_or_le q (-c) with h' | h'
      · have := Int.mul_le_mul_of_nonneg_left (show q ≤ -c - 1 by omega) (show 0 ≤ s.st by omega)
        rw [Int.mul_sub, Int.mul_neg] at this; omega
      · exact h'
  have hL : ∀ q : Int, q ≤ mLast s t ↔ s.lo + s.st * q ≤ mHi s t := by
    intro q
    have e1 := Int.mul_ediv_add_emod (mHi s t - s.lo) s.st
    have e2 := Int.emod_nonneg (mHi s t - s.lo) (b := s.st) (by omega)
    have e3 := Int.emod_lt_of_pos (mHi s t - s.lo) (b := s.st) (by omega)
    unfold mLast
    generalize (mHi s t - s.lo) / s.st = c at *
    constructor
    · intro h
      have := Int.mul_le_mul_of_nonneg_left h (show 0 ≤ s.st by omega)
      omega
    · intro h
      rcases Int.lt_or_le c q with h' | h'
      · have := Int.mul_le_mul_of_nonneg_left (show c + 1 ≤ q by omega) (show 0 ≤ s.st by omega)
        rw [Int.mul_add] at this; omega
      · exact h'
  have both : ∀ n, (Mem s n ∧ Mem t n) ↔ ∃ q, n = s.lo + s.st * q ∧ mFirst s t ≤ q ∧ q ≤ mLast s t ∧ mM s t ∣ q - mK0 s t := by
    intro n
    constructor
    · rintro ⟨⟨a1, a2, ⟨q, hq⟩⟩, ⟨b1, b2, b3⟩⟩
      refine ⟨q, by omega, (hF q).2 (by unfold mLo; omega), (hL q).2 (by unfold mHi; omega), (key q).1 ?_⟩
      rw [← hq]
      have : s.lo + (n - s.lo) - t.lo = n - t.lo := by omega
      rw [this]; exact b3
    · rintro ⟨q, rfl, q1, q2, q3⟩
      have r1 := (hF q).1 q1
      have r2 := (hL q).1 q2
      have r3 := (key q).2 q3
      unfold mLo at r1; unfold mHi at r2
      exact ⟨⟨by omega, by omega, ⟨q, by omega⟩⟩, ⟨by omega, by omega, r3⟩⟩
  by_cases c4 : mLast s t < mK s t
  · rw [if_pos c4]
    refine isMeet_none fun n hn => ?_
    obtain ⟨q, _, q1, q2, q3⟩ := (both n).1 hn
    have := l5' q q1 q3
    omega
  rw [if_neg c4]
  have r1 := Int.emod_nonneg (mLast s t - mK s t) (b := mM s t) (by omega)
  have r2 := Int.emod_lt_of_pos (mLast s t - mK s t) (b := mM s t) (by omega)
  have r3 := Int.mul_ediv_add_emod (mLast s t - mK s t) (mM s t)
  have r4 := Int.ediv_nonneg (a := mLast s t - mK s t) (b := mM s t) (by omega) (by omega)
  have hLK : mL s t = mK s t + mM s t * ((mLast s t - mK s t) / mM s t) := by unfold mL; omega
  have hLl : mL s t ≤ mLast s t := by unfold mL; omega
  have hKL : mK s t ≤ mL s t := by
    rw [hLK]; have := Int.mul_nonneg (show 0 ≤ mM s t by omega) r4; omega
  have x1 := (hF _).1 l2
  have x2 := (hL _).1 hLl
  have a1 := hs.lo; have a2 := hs.hi
  have p1 : s.lo ≤ mLo s t := by unfold mLo; omega
  have p2 : mHi s t ≤ s.hi := by unfold mHi; omega
  have hmul : s.st * mK s t ≤ s.st * mL s t := Int.mul_le_mul_of_nonneg_left hKL (by omega)
  have hdv : mM s t ∣ mL s t - mK s t := ⟨(mLast s t - mK s t) / mM s t, by omega⟩
  refine ⟨fun _ => ⟨⟨?_, ?_, ?_, ?_, ?_, ?_⟩, fun n => ?_⟩, (fun h => by cases h)⟩
  · dsimp only; omega
  · dsimp only; omega
  · dsimp only; omega
  · dsimp only
    intro h
    have : s.st * mK s t = s.st * mL s t := by omega
    have := Int.eq_of_mul_eq_mul_left (by omega) this
    rw [if_neg (by omega)]
  · dsimp only
    intro h
    have h' : mK s t < mL s t := by
      rcases Int.lt_or_le (mK s t) (mL s t) with h' | h'
      · exact h'
      · have e : mK s t = mL s t := by omega
        rw [e] at h; omega
    rw [if_pos h']
    have := Int.mul_le_mul sp m1 (by omega) (by omega)
    omega
  · dsimp only
    have e : s.lo + s.st * mL s t - (s.lo + s.st * mK s t) = s.st * (mL s t - mK s t) := by rw [Int.mul_sub]; omega
    rw [e]
    split
    · exact Int.mul_dvd_mul (Int.dvd_refl _) hdv
    · have : mL s t - mK s t = 0 := by omega
      rw [this]; simp
  · rw [both]
    unfold Mem
    dsimp only
    constructor
    · rintro ⟨b1, b2, b3⟩
      have hst : s.st ∣ n - s.lo := by
        have e : n - s.lo = (n - (s.lo + s.st * mK s t)) + s.st * mK s t := by omega
        rw [e]
        refine Int.dvd_add (Int.dvd_trans ?_ b3) (Int.dvd_mul_right ..)
        split
        · exact Int.dvd_mul_right ..
        · exact Int.dvd_zero _
      obtain ⟨q, hq⟩ := hst
      have hq' : n = s.lo + s.st * q := by omega
      subst hq'
      have b1' : mK s t ≤ q := by
        rcases Int.lt_or_le q (mK s t) with h | h
        · have := Int.mul_lt_mul_of_pos_left h (show 0 < s.st by omega)
          omega
        · exact h
      have b2' : q ≤ mL s t := by
        rcases Int.lt_or_le (mL s t) q with h | h
        · have := Int.mul_lt_mul_of_pos_left h (show 0 < s.st by omega)
          omega
        · exact h
      refine ⟨q, rfl, by omega, by omega, ?_⟩
      have e : s.lo + s.st * q - (s.lo + s.st * mK s t) = s.st * (q - mK s t) := by rw [Int.mul_sub]; omega
      rw [e] at b3
      have h3 : mM s t ∣ q - mK s t := by
        by_cases h : mK s t < mL s t
        · rw [if_pos h] at b3
          exact (Int.mul_dvd_mul_iff_left (by omega)).1 b3
        · have : q - mK s t = 0 := by omega
          rw [this]; simp
      have e2 : q - mK0 s t = (q - mK s t) + (mK s t - mK0 s t) := by omega
      rw [e2]; exact Int.dvd_add h3 l1
    · rintro ⟨q, rfl, q1, q2, q3⟩
      have b1 := l5' q q1 q3
      have h3 : mM s t ∣ q - mK s t := by
        have e2 : q - mK s t = (q - mK0 s t) - (mK s t - mK0 s t) := by omega
        rw [e2]; exact Int.dvd_sub q3 l1
      have b2 : q ≤ mL s t := by
        rw [hLK]
        obtain ⟨z, hz⟩ := h3
        have hz2 : z ≤ (mLast s t - mK s t) / mM s t := by
          rcases Int.lt_or_le ((mLast s t - mK s t) / mM s t) z with h | h
          · have := Int.mul_le_mul_of_nonneg_left (show (mLast s t - mK s t) / mM s t + 1 ≤ z by omega) (show 0 ≤ mM s t by omega)
            rw [Int.mul_add] at this; omega
          · exact h
        have := Int.mul_le_mul_of_nonneg_left hz2 (show 0 ≤ mM s t by omega)
        omega
      have y1 := Int.mul_le_mul_of_nonneg_left b1 (show 0 ≤ s.st by omega)
      have y2 := Int.mul_le_mul_of_nonneg_left b2 (show 0 ≤ s.st by omega)
      refine ⟨by omega, by omega, ?_⟩
      have e : s.lo + s.st * q - (s.lo + s.st * mK s t) = s.st * (q - mK s t) := by rw [Int.mul_sub]; omega
      rw [e]
      split
      · exact Int.mul_dvd_mul (Int.dvd_refl _) h3
      · have : q - mK s t = 0 := by omega
        rw [this]; simp

theorem IsMeet.symm {s t : Sp} {r : Sp × Bool} (h : IsMeet s t r) : IsMeet t s r :=
  ⟨fun hr => ⟨(h.1 hr).1, fun n => ((h.1 hr).2 n).trans And.comm⟩, fun hr => ⟨(h.2 hr).1, fun n hn => (h.2 hr).2 n hn.symm⟩⟩
theorem meetM_spec {s t : Sp} (hs : Vld s) (ht : Vld t) (h3 : s.st ≤ 2147483648) (h4 : t.st ≤ 2147483648) : IsMeet s t (meetM s t) := by
  unfold meetM
  split
  · exact (meetC_spec ht hs (by omega) h4).symm
  · exact meetC_spec hs ht (by omega) h3

/-- A valid span is known by its elements. -/
theorem sp_unique {u v : Sp} (hu : Vld u) (hv : Vld v) (h : ∀ n, Mem u n ↔ Mem v n) : u = v := by
  have a1 := (h _).1 (mem_self_lo hu)
  have a2 := (h _).2 (mem_self_lo hv)
  have a3 := (h _).1 (mem_self_hi hu)
  have a4 := (h _).2 (mem_self_hi hv)
  have e1 : u.lo = v.lo := by have := a1.1; have := a2.1; omega
  have e2 : u.hi = v.hi := by have := a3.2.1; have := a4.2.1; omega
  refine Sp.ext' e1 e2 ?_
  by_cases he : u.lo = u.hi
  · rw [hu.one he, hv.one (by omega)]
  · have u1 := hu.pos (by have := hu.le; omega)
    have v1 := hv.pos (by have := hv.le; omega)
    have u2 := hu.stle
    have v2 := hv.stle
    have b1 : Mem u (u.lo + u.st) := ⟨by omega, by omega, by have : u.lo + u.st - u.lo = u.st := by omega
                                                             rw [this]; exact Int.dvd_refl _⟩
    have b2 : Mem v (v.lo + v.st) := ⟨by omega, by omega, by have : v.lo + v.st - v.lo = v.st := by omega
                                                             rw [this]; exact Int.dvd_refl _⟩
    have c1 := ((h _).1 b1).2.2
    have c2 := ((h _).2 b2).2.2
    have d1 : u.lo + u.st - v.lo = u.st := by omega
    have d2 : v.lo + v.st - u.lo = v.st := by omega
    rw [d1] at c1
    rw [d2] at c2
    have f1 := Int.le_of_dvd (by omega) c1
    have f2 := Int.le_of_dvd (by omega) c2
    omega
theorem isMeet_unique {s t : Sp} {r r' : Sp × Bool} (h : IsMeet s t r) (h' : IsMeet s t r') : r = r' := by
  obtain ⟨a, b⟩ := r
  obtain ⟨a', b'⟩ := r'
  cases b <;> cases b'
  · have e1 : a = zsp := (h.2 rfl).1
    have e2 : a' = zsp := (h'.2 rfl).1
    rw [e1, e2]
  · exact ((h.2 rfl).2 _ (((h'.1 rfl).2 _).1 (mem_self_lo (h'.1 rfl).1))).elim
  · exact ((h'.2 rfl).2 _ (((h.1 rfl).2 _).1 (mem_self_lo (h.1 rfl).1))).elim
  · have := sp_unique (h.1 rfl).1 (h'.1 rfl).1 (fun n => ((h.1 rfl).2 n).trans ((h'.1 rfl).2 n).symm)
    dsimp only at this
    rw [this]

end Go.Proofs.Ytnihhchgnkfcgaa
