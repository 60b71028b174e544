/- Plain mathematics of spans: the reference's way to the common elements. -/
import Derived.Test.YtnihhchgnkfcgaaPg
import Derived.Test.YtnihhchgnkfcgaaPj
set_option linter.unusedSimpArgs false
set_option linter.unusedVariables false
namespace Go.Proofs.Ytnihhchgnkfcgaa

/-- What the reference reckons where both steps are positive: from k, the first number of steps, on. -/
def rK0 (s t : Sp) (g m inv : Int) : Int := ((t.lo - s.lo) / g % m) * inv % m
def rLeast (s t : Sp) : Int := (t.lo - s.lo + s.st - 1) / s.st
def rK (s t : Sp) (m k0 : Int) : Int := if s.lo < t.lo ∧ k0 < rLeast s t then k0 + (rLeast s t - k0 + m - 1) / m * m else k0
def rLast (s t : Sp) : Int := (min s.hi t.hi - s.lo) / s.st

structure RM (s t : Sp) (g m inv k0 k : Int) : Prop where
  hg : g = gcdM s.st t.st
  hm : m = t.st / g
  hi : m ∣ s.st / g * inv - 1
  hk0 : k0 = rK0 s t g m inv
  hk : k = rK s t m k0

theorem ceil_spec {a b : Int} (hb : 1 ≤ b) : b * ((a + b - 1) / b) ≥ a ∧ b * ((a + b - 1) / b) < a + b := by
  have h1 := Int.mul_ediv_add_emod (a + b - 1) b
  have h2 := Int.emod_nonneg (a + b - 1) (b := b) (by omega)
  have h3 := Int.emod_lt_of_pos (a + b - 1) (b := b) (by omega)
  omega

/-- From k on, in steps of m: just the numbers of steps from s.lo that lead to elements of t's class, not ahead of t.lo. -/
theorem rm_spec {s t : Sp} {g m inv k0 k : Int} (hs : Vld s) (ht : Vld t) (s1 : 1 ≤ s.st) (t1 : 1 ≤ t.st) (R : RM s t g m inv k0 k) (hd : g ∣ t.lo - s.lo) :
    1 ≤ g ∧ 1 ≤ m ∧ 0 ≤ k ∧ (∀ q : Int, 0 ≤ q → ((t.lo ≤ s.lo + s.st * q ∧ t.st ∣ s.lo + s.st * q - t.lo) ↔ (k ≤ q ∧ m ∣ q - k))) := by
  obtain ⟨hg, hm, hi, hk0, hk⟩ := R
  have g1 : 1 ≤ g := by rw [hg]; exact gcdM_pos (by omega)
  have ds : g ∣ s.st := by rw [hg]; exact gcdM_dvd_left _ _
  have dt : g ∣ t.st := by rw [hg]; exact gcdM_dvd_right _ _
  obtain ⟨S, hS⟩ := ds
  obtain ⟨T, hT⟩ := dt
  obtain ⟨D, hD⟩ := hd
  have hSg : s.st / g = S := by rw [hS, Int.mul_ediv_cancel_left _ (by omega)]
  have hTg : m = T := by rw [hm, hT, Int.mul_ediv_cancel_left _ (by omega)]
  have hDg : (t.lo - s.lo) / g = D := by rw [hD, Int.mul_ediv_cancel_left _ (by omega)]
  subst hTg
  have m1 : 1 ≤ m := by
    have : g * 0 < g * m := by omega
    have := Int.lt_of_mul_lt_mul_left this (by omega)
    omega
  rw [hSg] at hi
  -- the class
  have cls : ∀ q : Int, t.st ∣ s.lo + s.st * q - t.lo ↔ m ∣ S * q - D := by
    intro q
    have : s.lo + s.st * q - t.lo = g * (S * q - D) := by
      rw [hS, Int.mul_sub, ← hD, Int.mul_assoc]; omega
    rw [this, hT]
    exact Int.mul_dvd_mul_iff_left (by omega)
  have k0b : 0 ≤ k0 ∧ k0 < m := by
    rw [hk0]; unfold rK0
    exact ⟨Int.emod_nonneg _ (by omega), Int.emod_lt_of_pos _ (by omega)⟩
  have hk0c : m ∣ k0 - D * inv := by
    rw [hk0]; unfold rK0; rw [hDg]
    have e1 := Int.mul_ediv_add_emod (D % m * inv) m
    have e2 := Int.mul_ediv_add_emod D m
    refine ⟨-(D / m * inv) - (D % m * inv) / m, ?_⟩
    have e3 : D * inv = m * (D / m * inv) + D % m * inv := by
      conv => lhs; rw [← e2]
      rw [Int.add_mul, Int.mul_assoc]
    rw [Int.mul_sub, Int.mul_neg]
    omega
  obtain ⟨u, hu⟩ := hi
  obtain ⟨v, hv⟩ := hk0c
  have cls2 : ∀ q : Int, m ∣ S * q - D ↔ m ∣ q - k0 := by
    intro q
    -- inv * (S q - D) = q + m (u q) - (k0 - m v)
    have key : inv * (S * q - D) = q - k0 + m * (u * q + v) := by
      have h1 : inv * (S * q) = (S * inv) * q := by rw [← Int.mul_assoc, Int.mul_comm inv S]
      have h2 : S * inv = 1 + m * u := by omega
      have h3 : inv * D = k0 - m * v := by rw [Int.mul_comm]; omega
      rw [Int.mul_sub, h1, h2, h3, Int.add_mul, Int.one_mul, Int.mul_add, Int.mul_assoc]
      omega
    have key2 : S * (q - k0) = (S * q - D) - m * (S * v + u * D) := by
      have h2 : S * inv = 1 + m * u := by omega
      have h3 : k0 = D * inv + m * v := by omega
      have h4 : S * k0 = D + m * (u * D) + m * (S * v) := by
        rw [h3, Int.mul_add, ← Int.mul_assoc, Int.mul_comm S D, Int.mul_assoc D S inv, h2, Int.mul_add, Int.mul_one]
        have h5 : D * (m * u) = m * (u * D) := by rw [← Int.mul_assoc, Int.mul_comm D m, Int.mul_assoc, Int.mul_comm D u]
        have h6 : S * (m * v) = m * (S * v) := by rw [← Int.mul_assoc, Int.mul_comm S m, Int.mul_assoc]
        rw [h5, h6]
      rw [Int.mul_sub, h4, Int.mul_add]
      omega
    constructor
    · intro h
      have := Int.dvd_sub (Int.dvd_mul_of_dvd_right (b := inv) h) (Int.dvd_mul_right m (u * q + v))
      rw [key] at this
      simpa using this
    · intro h
      have := Int.dvd_add (Int.dvd_mul_of_dvd_right (b := S) h) (Int.dvd_mul_right m (S * v + u * D))
      rw [key2] at this
      simpa using this
  have kc : m ∣ k - k0 := by
    rw [hk]; unfold rK
    split
    · exact ⟨(rLeast s t - k0 + m - 1) / m, by rw [Int.mul_comm m]; omega⟩
    · exact ⟨0, by omega⟩
  have ceil1 := ceil_spec (a := t.lo - s.lo) s1
  have ceil2 := ceil_spec (a := rLeast s t - k0) m1
  change s.st * rLeast s t ≥ t.lo - s.lo ∧ s.st * rLeast s t < t.lo - s.lo + s.st at ceil1
  have kpos : 0 ≤ k ∧ k0 ≤ k := by
    rw [hk]; unfold rK
    split
    · rename_i h
      rw [Int.mul_comm m] at ceil2
      omega
    · omega
  refine ⟨g1, m1, kpos.1, fun q hq => ?_⟩
  rw [cls, cls2]
  have low : t.lo ≤ s.lo + s.st * q ↔ (s.lo < t.lo → rLeast s t ≤ q) := by
    constructor
    · intro h hlt
      have : s.st * rLeast s t < s.st * (q + 1) := by rw [Int.mul_add]; omega
      have := Int.lt_of_mul_lt_mul_left this (by omega)
      omega
    · intro h
      by_cases hlt : s.lo < t.lo
      · have := Int.mul_le_mul_of_nonneg_left (h hlt) (show (0 : Int) ≤ s.st by omega)
        omega
      · have := Int.mul_nonneg (show (0 : Int) ≤ s.st by omega) hq
        omega
  rw [low]
  constructor
  · rintro ⟨h1, h2⟩
    have h3 : m ∣ q - k := by
      have := Int.dvd_sub h2 kc
      rwa [show q - k0 - (k - k0) = q - k by omega] at this
    refine ⟨?_, h3⟩
    by_cases hlt : q < k
    · exfalso
      -- q ≡ k, q < k so q ≤ k - m
      have h4 : m ≤ k - q := Int.le_of_dvd (by omega) (by
        have := Int.dvd_neg.2 h3
        rwa [show -(q - k) = k - q by omega] at this)
      by_cases hc : s.lo < t.lo ∧ k0 < rLeast s t
      · have hk2 : k = k0 + (rLeast s t - k0 + m - 1) / m * m := by rw [hk]; unfold rK; rw [if_pos hc]
        have := h1 hc.1
        rw [Int.mul_comm m] at ceil2
        omega
      · have hk2 : k = k0 := by rw [hk]; unfold rK; rw [if_neg hc]
        omega
    · omega
  · rintro ⟨h1, h3⟩
    have h2 : m ∣ q - k0 := by
      have := Int.dvd_add h3 kc
      rwa [show q - k + (k - k0) = q - k0 by omega] at this
    refine ⟨fun hlt => ?_, h2⟩
    by_cases hc : k0 < rLeast s t
    · have hk2 : k = k0 + (rLeast s t - k0 + m - 1) / m * m := by rw [hk]; unfold rK; rw [if_pos ⟨hlt, hc⟩]
      rw [Int.mul_comm m] at ceil2
      omega
    · omega

/-- The result, from k on. -/
def rmeetM (s t : Sp) (m k : Int) : Sp × Bool :=
  if min s.hi t.hi < s.lo ∨ rLast s t < k then (zsp, false)
  else (madeM (s.lo + s.st * k) (s.lo + s.st * (k + (rLast s t - k) / m * m)) (s.st * max (min m ((rLast s t - k) / m * m)) 1), true)

theorem meet_unique {s t : Sp} (hs : Vld s) (ht : Vld t) (h3 : s.st ≤ 2147483648) (h4 : t.st ≤ 2147483648) {r : Sp × Bool} (h : IsSet (fun n => Mem s n ∧ Mem t n) r) : meetM s t = r :=
  isSet_unique (meet_set hs ht h3 h4) h

theorem rmeet_set {s t : Sp} {g m inv k0 k : Int} (hs : Vld s) (ht : Vld t) (s1 : 1 ≤ s.st) (t1 : 1 ≤ t.st) (R : RM s t g m inv k0 k) (hd : g ∣ t.lo - s.lo) :
    IsSet (fun n => Mem s n ∧ Mem t n) (rmeetM s t m k) := by
  obtain ⟨g1, m1, kp, key⟩ := rm_spec hs ht s1 t1 R hd
  have hlo := hs.lo; have hhi := hs.hi; have hle := hs.le
  have common : ∀ n, (Mem s n ∧ Mem t n) ↔ ∃ q, 0 ≤ q ∧ n = s.lo + s.st * q ∧ (k ≤ q ∧ m ∣ q - k) ∧ n ≤ min s.hi t.hi := by
    intro n
    constructor
    · rintro ⟨⟨a1, a2, q, hq⟩, b1, b2, b3⟩
      have hq0 : 0 ≤ q := by
        have : s.st * (-1) < s.st * q := by omega
        have := Int.lt_of_mul_lt_mul_left this (by omega)
        omega
      have hn : n = s.lo + s.st * q := by omega
      rw [hn] at b1 b3
      exact ⟨q, hq0, hn, (key q hq0).1 ⟨b1, b3⟩, by omega⟩
    · rintro ⟨q, hq0, hn, hk, hm⟩
      obtain ⟨c1, c2⟩ := (key q hq0).2 hk
      have := Int.mul_nonneg (show (0 : Int) ≤ s.st by omega) hq0
      rw [← hn] at c1 c2
      exact ⟨⟨by omega, by omega, q, by omega⟩, c1, by omega, c2⟩
  have last : min s.hi t.hi ≥ s.lo → ∀ q : Int, (s.lo + s.st * q ≤ min s.hi t.hi ↔ q ≤ rLast s t) := by
    intro h q
    unfold rLast
    rw [Int.le_ediv_iff_mul_le (by omega), Int.mul_comm]
    omega
  unfold rmeetM
  split
  · rename_i h
    refine ⟨fun h => (by cases h), fun _ => ⟨rfl, fun n hn => ?_⟩⟩
    obtain ⟨q, hq0, hn1, ⟨hk, _⟩, hm⟩ := (common n).1 hn
    have := Int.mul_nonneg (show (0 : Int) ≤ s.st by omega) hq0
    rcases h with h | h
    · omega
    · rw [hn1] at hm
      have := (last (by omega) q).1 hm
      omega
  · rename_i h
    have h1 : s.lo ≤ min s.hi t.hi := by omega
    have h2 : k ≤ rLast s t := by omega
    obtain ⟨c, hc⟩ : ∃ c, c = (rLast s t - k) / m := ⟨_, rfl⟩
    rw [← hc]
    have c0 : 0 ≤ c := by rw [hc]; exact Int.ediv_nonneg (by omega) (by omega)
    have c1 : c * m ≤ rLast s t - k := by rw [hc]; exact Int.ediv_mul_le _ (by omega)
    have c2 : ∀ j : Int, 0 ≤ j → k + j * m ≤ rLast s t → j ≤ c := by
      intro j _ hj
      rw [hc]
      exact (Int.le_ediv_iff_mul_le (by omega)).2 (by omega)
    have cm : 0 ≤ c * m := Int.mul_nonneg c0 (by omega)
    have e1 := (last h1 (k + c * m)).2 (by omega)
    have e0 : s.st * k ≤ s.st * (k + c * m) := Int.mul_le_mul_of_nonneg_left (by omega) (by omega)
    have e2 := Int.mul_nonneg (show (0 : Int) ≤ s.st by omega) kp
    have step : 1 ≤ s.st * max (min m (c * m)) 1 := by
      have := Int.mul_le_mul_of_nonneg_left (show (1 : Int) ≤ max (min m (c * m)) 1 by omega) (show (0 : Int) ≤ s.st by omega)
      omega
    have dv : s.st * max (min m (c * m)) 1 ∣ s.lo + s.st * (k + c * m) - (s.lo + s.st * k) := by
      have : s.lo + s.st * (k + c * m) - (s.lo + s.st * k) = s.st * (c * m) := by rw [Int.mul_add]; omega
      rw [this]
      refine Int.mul_dvd_mul_left _ ?_
      by_cases z : c = 0
      · rw [z]; simp
      · have : m ≤ c * m := by
          have := Int.mul_le_mul_of_nonneg_right (show (1 : Int) ≤ c by omega) (show (0 : Int) ≤ m by omega)
          omega
        have : max (min m (c * m)) 1 = m := by omega
        rw [this]; exact Int.dvd_mul_left _ _
    refine ⟨fun _ => ⟨made_vld2 (by omega) (by omega) (by omega) (fun _ => step) dv, fun n => ?_⟩, fun h => (by cases h)⟩
    refine Iff.trans ?_ (common n).symm
    dsimp only
    constructor
    · intro hn
      obtain ⟨a1, a2, a3⟩ := mem_made hn
      have a4 : s.st ∣ n - (s.lo + s.st * k) := Int.dvd_trans (Int.dvd_mul_right _ _) a3
      obtain ⟨j, hj⟩ := a4
      have hn2 : n = s.lo + s.st * (k + j) := by rw [Int.mul_add]; omega
      have j0 : 0 ≤ j := by
        have : s.st * (-1) < s.st * j := by omega
        have := Int.lt_of_mul_lt_mul_left this (by omega)
        omega
      have jm : m ∣ j := by
        by_cases z : c = 0
        · rw [z] at a2
          have : s.st * (k + j) ≤ s.st * k := by simp at a2; omega
          have := Int.le_of_mul_le_mul_left this (by omega)
          have : j = 0 := by omega
          rw [this]; simp
        · have : m ≤ c * m := by
            have := Int.mul_le_mul_of_nonneg_right (show (1 : Int) ≤ c by omega) (show (0 : Int) ≤ m by omega)
            omega
          have hmx : max (min m (c * m)) 1 = m := by omega
          rw [hmx, hj] at a3
          exact Int.dvd_of_mul_dvd_mul_left (by omega) a3
      exact ⟨k + j, by omega, hn2, ⟨by omega, by rwa [show k + j - k = j by omega]⟩, by omega⟩
    · rintro ⟨q, hq0, hn, ⟨hk, j, hj⟩, hm⟩
      rw [hn] at hm
      have hl := (last h1 q).1 hm
      have j0 : 0 ≤ j := by
        have : m * (-1) < m * j := by omega
        have := Int.lt_of_mul_lt_mul_left this (by omega)
        omega
      have hqj : q = k + j * m := by rw [Int.mul_comm]; omega
      have jc := c2 j j0 (by omega)
      have jm := Int.mul_le_mul_of_nonneg_right jc (show (0 : Int) ≤ m by omega)
      have u1 : s.st * k ≤ s.st * q := Int.mul_le_mul_of_nonneg_left (by omega) (by omega)
      have u2 : s.st * q ≤ s.st * (k + c * m) := Int.mul_le_mul_of_nonneg_left (by omega) (by omega)
      refine made_mem (by omega) (by omega) ?_
      have : n - (s.lo + s.st * k) = s.st * (j * m) := by rw [hn, hqj, Int.mul_add]; omega
      rw [this]
      refine Int.mul_dvd_mul_left _ ?_
      by_cases z : c = 0
      · have : j = 0 := by omega
        rw [this]; simp
      · have : m ≤ c * m := by
          have := Int.mul_le_mul_of_nonneg_right (show (1 : Int) ≤ c by omega) (show (0 : Int) ≤ m by omega)
          omega
        have hmx : max (min m (c * m)) 1 = m := by omega
        rw [hmx]; exact Int.dvd_mul_left _ _

theorem rmeet_far {s t : Sp} {g : Int} (hg : g = gcdM s.st t.st) (hd : ¬ g ∣ t.lo - s.lo) : IsSet (fun n => Mem s n ∧ Mem t n) (zsp, false) :=
  ⟨fun h => (by cases h), fun _ => ⟨rfl, fun n ⟨⟨_, _, h1⟩, _, _, h2⟩ => hd (by
    have d1 : g ∣ s.st := by rw [hg]; exact gcdM_dvd_left _ _
    have d2 : g ∣ t.st := by rw [hg]; exact gcdM_dvd_right _ _
    have := Int.dvd_sub (Int.dvd_trans d1 h1) (Int.dvd_trans d2 h2)
    rwa [show n - s.lo - (n - t.lo) = t.lo - s.lo by omega] at this)⟩⟩

theorem mem_single {s : Sp} (hs : Vld s) (h : s.st = 0) (n : Int) : Mem s n ↔ n = s.lo := by
  have hle := hs.le
  have he : s.lo = s.hi := by
    by_cases e : s.lo < s.hi
    · have := hs.pos e; omega
    · omega
  constructor
  · intro ⟨a, b, _⟩; omega
  · rintro rfl; exact mem_self_lo hs
/-- Where a step is 0: the one element, if it is one of both. -/
theorem rmeet_one {s t : Sp} (hs : Vld s) (ht : Vld t) (n : Int) (h : (s.st = 0 ∧ n = s.lo) ∨ (t.st = 0 ∧ n = t.lo)) :
    IsSet (fun x => Mem s x ∧ Mem t x) (if hasB s n && hasB t n then (madeM n n 0, true) else (zsp, false)) := by
  have only : ∀ x, Mem s x ∧ Mem t x → x = n := by
    rintro x ⟨h1, h2⟩
    rcases h with ⟨h, rfl⟩ | ⟨h, rfl⟩
    · exact (mem_single hs h x).1 h1
    · exact (mem_single ht h x).1 h2
  split
  · rename_i hh
    rw [Bool.and_eq_true, hasB_iff, hasB_iff] at hh
    have b1 := hs.lo; have b2 := hs.hi; have b3 := hh.1.1; have b4 := hh.1.2.1
    refine ⟨fun _ => ⟨made_vld2 (by omega) (by omega) (Int.le_refl _) (fun h => (by omega)) (by simp), fun x => ?_⟩, fun h => (by cases h)⟩
    constructor
    · intro hx
      obtain ⟨a, b, _⟩ := mem_made hx
      have : x = n := by omega
      rw [this]; exact hh
    · intro hx
      rw [only x hx]
      exact made_mem (Int.le_refl _) (Int.le_refl _) (by simp)
  · rename_i hh
    refine ⟨fun h => (by cases h), fun _ => ⟨rfl, fun x hx => hh ?_⟩⟩
    rw [Bool.and_eq_true, hasB_iff, hasB_iff, ← only x hx]
    exact hx

/-! ### Inverses and doubling -/
def IsInv (a m x : Int) : Prop := 0 ≤ x ∧ x < m ∧ m ∣ a * x - 1
theorem inv_unique {a m x y : Int} (hx : IsInv a m x) (hy : IsInv a m y) : x = y := by
  obtain ⟨x0, x1, u, hu⟩ := hx
  obtain ⟨y0, y1, v, hv⟩ := hy
  -- x = x (a y) = y (a x) mod m
  have h : m ∣ x - y := by
    refine ⟨y * u - x * v, ?_⟩
    have h1 : y * (a * x - 1) = x * (a * y - 1) + (x - y) := by
      rw [Int.mul_sub, Int.mul_sub, Int.mul_one, Int.mul_one]
      have : y * (a * x) = x * (a * y) := by rw [← Int.mul_assoc, Int.mul_comm y a, Int.mul_assoc, ← Int.mul_assoc x, Int.mul_comm x a, Int.mul_assoc, Int.mul_comm x y]
      omega
    rw [hu, hv] at h1
    have h2 : y * (m * u) = m * (y * u) := by rw [← Int.mul_assoc, Int.mul_comm y m, Int.mul_assoc]
    have h3 : x * (m * v) = m * (x * v) := by rw [← Int.mul_assoc, Int.mul_comm x m, Int.mul_assoc]
    rw [Int.mul_sub]
    omega
  obtain ⟨z, hz⟩ := h
  have : m * (-1) < m * z := by omega
  have h1 := Int.lt_of_mul_lt_mul_left this (by omega)
  have : m * z < m * 1 := by omega
  have h2 := Int.lt_of_mul_lt_mul_left this (by omega)
  have : z = 0 := by omega
  rw [this] at hz
  omega
open Classical in
noncomputable def invM (a m : Int) : Int := if h : ∃ x, IsInv a m x then Classical.choose h else 0
theorem inv_eq {a m x : Int} (h : IsInv a m x) : x = invM a m := by
  unfold invM
  have hex : ∃ x, IsInv a m x := ⟨x, h⟩
  rw [dif_pos hex]
  exact inv_unique h (Classical.choose_spec hex)
/-- One round of the reference's search for an inverse: the signs alternate, and no coefficient grows beyond m. -/
structure InvR (a m c d u v U V : Int) : Prop where
  c1 : 1 ≤ c
  d0 : 0 ≤ d
  dc : d < c ∨ m = 1
  U0 : 0 ≤ U
  V0 : 0 ≤ V
  sg : (u = -U ∧ v = V) ∨ (u = U ∧ v = -V)
  sum : V * c + U * d = m
  gc : gcdM c d = 1
  cu : m ∣ c - a * u
  dv : m ∣ d - a * v
theorem inv_start {a m : Int} (h1 : 1 ≤ m) (hg : gcdM a m = 1) : InvR a m m (a % m) 0 1 0 1 := by
  have e1 := Int.emod_nonneg a (b := m) (by omega)
  have e2 := Int.emod_lt_of_pos a (b := m) (by omega)
  refine ⟨h1, e1, .inl e2, Int.le_refl _, by omega, .inl ⟨rfl, rfl⟩, by omega, by rw [gcdM_mod]; exact hg, by simp, ?_⟩
  have := Int.mul_ediv_add_emod a m
  exact ⟨-(a / m), by rw [Int.mul_neg]; omega⟩
theorem inv_step {a m c d u v U V : Int} (R : InvR a m c d u v U V) (hd : 1 ≤ d) :
    InvR a m d (c - c / d * d) v (u - c / d * v) V (U + c / d * V) ∧ c - c / d * d = c % d ∧ 0 ≤ c / d ∧ U + c / d * V ≤ m ∧ 0 ≤ c / d * V ∧ c / d * V ≤ m ∧ V ≤ m ∧ U ≤ m := by
  have e0 := Int.mul_ediv_add_emod c d
  have e1 := Int.emod_nonneg c (b := d) (by omega)
  have e2 := Int.emod_lt_of_pos c (b := d) (by omega)
  have q0 : 0 ≤ c / d := Int.ediv_nonneg (by have := R.c1; omega) (by omega)
  have e3 : c - c / d * d = c % d := by rw [Int.mul_comm]; omega
  have qV : 0 ≤ c / d * V := Int.mul_nonneg q0 R.V0
  have sum2 : (U + c / d * V) * d + V * (c % d) = m := by
    have := R.sum
    rw [Int.add_mul]
    have h1 : c / d * V * d = V * (d * (c / d)) := by rw [Int.mul_comm (c / d) V, Int.mul_assoc, Int.mul_comm (c / d) d]
    have h2 : V * c = V * (d * (c / d)) + V * (c % d) := by rw [← Int.mul_add, e0]
    omega
  have b1 : 0 ≤ V * (c % d) := Int.mul_nonneg R.V0 e1
  have b2 : U + c / d * V ≤ (U + c / d * V) * d := by
    have := Int.mul_le_mul_of_nonneg_left hd (show 0 ≤ U + c / d * V by have := R.U0; omega)
    omega
  have b3 : V ≤ V * c := by
    have := Int.mul_le_mul_of_nonneg_left R.c1 R.V0
    omega
  have b4 : 0 ≤ U * d := Int.mul_nonneg R.U0 R.d0
  have hs := R.sum
  have hU := R.U0
  refine ⟨⟨hd, by rw [e3]; exact e1, .inl (by rw [e3]; exact e2), R.V0, by omega, ?_, ?_, ?_, R.dv, ?_⟩, e3, q0, by omega, qV, by omega, by omega, by omega⟩
  · rcases R.sg with ⟨h1, h2⟩ | ⟨h1, h2⟩
    · right
      refine ⟨h2, ?_⟩
      rw [h1, h2]; omega
    · left
      refine ⟨h2, ?_⟩
      rw [h1, h2, Int.mul_neg]; omega
  · rw [e3]; exact sum2
  · rw [e3, gcdM_mod]; exact R.gc
  · obtain ⟨x, hx⟩ := R.cu
    obtain ⟨y, hy⟩ := R.dv
    refine ⟨x - c / d * y, ?_⟩
    have h1 : a * (u - c / d * v) = a * u - c / d * (a * v) := by
      rw [Int.mul_sub]
      congr 1
      rw [← Int.mul_assoc, Int.mul_comm a, Int.mul_assoc]
    have h2 : c / d * (d - a * v) = c / d * (m * y) := by rw [hy]
    rw [Int.mul_sub] at h2
    have h3 : c / d * (m * y) = m * (c / d * y) := by rw [← Int.mul_assoc, Int.mul_comm (c / d) m, Int.mul_assoc]
    rw [h1, Int.mul_sub]
    omega
theorem inv_done {a m c u v U V : Int} (R : InvR a m c 0 u v U V) (h1 : 1 ≤ m) : (u.tmod m + m) % m = invM a m := by
  have hc : c = 1 := by
    have := R.gc
    rw [gcdM_zero (by have := R.c1; omega)] at this
    exact this
  obtain ⟨e1, _, _, e4, e5⟩ := rest_eq u h1
  rw [e1]
  refine inv_eq ⟨e4, e5, ?_⟩
  obtain ⟨x, hx⟩ := R.cu
  have e6 := Int.mul_ediv_add_emod u m
  refine ⟨-x - a * (u / m), ?_⟩
  have h2 : a * (u % m) = a * u - m * (a * (u / m)) := by
    have : u % m = u - m * (u / m) := by omega
    rw [this, Int.mul_sub]
    congr 1
    rw [← Int.mul_assoc, Int.mul_comm a m, Int.mul_assoc]
  rw [h2, Int.mul_sub, Int.mul_neg]
  omega
theorem gcd_parts {a b g : Int} (hg : g = gcdM a b) (h : 1 ≤ g) : gcdM (a / g) (b / g) = 1 := by
  have d1 : g ∣ a := by rw [hg]; exact gcdM_dvd_left _ _
  have d2 : g ∣ b := by rw [hg]; exact gcdM_dvd_right _ _
  have g0 := gcdM_nonneg (a / g) (b / g)
  obtain ⟨x, hx⟩ := gcdM_dvd_left (a / g) (b / g)
  obtain ⟨y, hy⟩ := gcdM_dvd_right (a / g) (b / g)
  generalize gcdM (a / g) (b / g) = e at *
  have h1 : g * e ∣ a := ⟨x, by have := Int.mul_ediv_cancel' d1; rw [Int.mul_assoc, ← hx, this]⟩
  have h2 : g * e ∣ b := ⟨y, by have := Int.mul_ediv_cancel' d2; rw [Int.mul_assoc, ← hy, this]⟩
  have h3 : g * e ∣ g := by
    have := dvd_gcdM h1 h2
    rwa [← hg] at this
  have h4 : g * e ∣ g * 1 := by rwa [Int.mul_one]
  have h5 := Int.dvd_of_mul_dvd_mul_left (by omega) h4
  exact Int.eq_one_of_dvd_one g0 h5
theorem dbl_step {a b m o A : Int} (hm : 1 ≤ m) (h : (o + a * b) % m = A) : (b % 2 = 1 → ((o + a) % m + (a + a) % m * (b / 2)) % m = A) ∧ (b % 2 = 0 → (o + (a + a) % m * (b / 2)) % m = A) := by
  have e := Int.mul_ediv_add_emod b 2
  have h1 : ∀ x y : Int, (x % m + y % m * (b / 2)) % m = (x + y * (b / 2)) % m := by
    intro x y
    rw [Int.add_emod, Int.emod_emod, Int.mul_emod, Int.emod_emod, ← Int.mul_emod, ← Int.add_emod]
  have h2 : ∀ x y : Int, (x + y % m * (b / 2)) % m = (x + y * (b / 2)) % m := by
    intro x y
    rw [Int.add_emod, Int.mul_emod, Int.emod_emod, ← Int.mul_emod, ← Int.add_emod]
  have h3 : (a + a) * (b / 2) = a * (2 * (b / 2)) := by
    rw [Int.add_mul, ← Int.mul_assoc, Int.mul_comm a 2, Int.mul_assoc]; omega
  constructor
  · intro hb
    rw [h1, h3, ← h]
    congr 1
    have : a * b = a * (2 * (b / 2)) + a := by
      conv => lhs; rw [← e, hb]
      rw [Int.mul_add, Int.mul_one]
    omega
  · intro hb
    rw [h2, h3, ← h]
    congr 1
    have : a * b = a * (2 * (b / 2)) := by
      conv => lhs; rw [← e, hb]
      rw [Int.add_zero]
    omega
end Go.Proofs.Ytnihhchgnkfcgaa
