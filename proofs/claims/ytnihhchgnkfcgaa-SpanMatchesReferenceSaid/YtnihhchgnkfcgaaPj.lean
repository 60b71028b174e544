/- Plain mathematics of spans: remainders (SpanMods). -/
import Derived.Test.YtnihhchgnkfcgaaPh
set_option linter.unusedSimpArgs false
set_option linter.unusedVariables false
namespace Go.Proofs.Ytnihhchgnkfcgaa

theorem mul_le_of_dvd {g x y : Int} (hg : 1 ≤ g) (hd : g ∣ x) (h : x ≤ y) : x ≤ y - y % g := by
  have h1 := Int.mul_ediv_add_emod y g
  obtain ⟨q, rfl⟩ := hd
  have h2 : q ≤ y / g := by
    refine (Int.le_ediv_iff_mul_le (by omega)).2 ?_
    rw [Int.mul_comm]; exact h
  have h3 := Int.mul_le_mul_of_nonneg_left h2 (show (0 : Int) ≤ g by omega)
  omega

/-- The parts of a span of remainders. -/
structure ModP (s : Sp) (m g l : Int) : Prop where
  g1 : 1 ≤ g
  gm : g ∣ m
  gs : g ∣ s.st
  l0 : 0 ≤ l
  lg : l < g
  gle : g ≤ m
  eq : s.lo % g = l
  r : (modM s m) = ⟨madeM l (m - 1 - (m - 1 - l) % g) g, 0⟩
theorem mod_parts (s : Sp) {m : Int} (h1 : 1 ≤ m) (h2 : m ≤ 1099511627776) : ModP s m (gcdM s.st m) (s.lo % gcdM s.st m) := by
  have g1 := gcdM_pos (a := s.st) (b := m) (by omega)
  refine ⟨g1, gcdM_dvd_right _ _, gcdM_dvd_left _ _, Int.emod_nonneg _ (by omega), Int.emod_lt_of_pos _ (by omega), gcdM_le h1, rfl, ?_⟩
  unfold modM
  rw [if_pos ⟨h1, h2⟩]
theorem ModP.top {s : Sp} {m g l : Int} (h : ModP s m g l) : l ≤ m - 1 - (m - 1 - l) % g ∧ m - 1 - (m - 1 - l) % g < m ∧ g ∣ m - 1 - (m - 1 - l) % g - l := by
  have h1 := h.lg; have h2 := h.gle; have h3 := h.l0; have h4 := h.g1
  have h5 := Int.emod_nonneg (m - 1 - l) (b := g) (by omega)
  have h6 := Int.mul_ediv_add_emod (m - 1 - l) g
  have h7 : 0 ≤ (m - 1 - l) / g := Int.ediv_nonneg (by omega) (by omega)
  have h8 := Int.mul_nonneg (show (0 : Int) ≤ g by omega) h7
  refine ⟨by omega, by omega, ⟨(m - 1 - l) / g, by omega⟩⟩
theorem mod_vld (s : Sp) {m : Int} (h1 : 1 ≤ m) (h2 : m ≤ 1099511627776) : (modM s m).e = 0 ∧ Vld (modM s m).s ∧ 0 ≤ (modM s m).s.lo ∧ (modM s m).s.hi < m := by
  have p := mod_parts s h1 h2
  generalize gcdM s.st m = g at p
  generalize s.lo % g = l at p
  obtain ⟨t1, t2, t3⟩ := p.top
  have h3 := p.l0; have h4 := p.g1
  rw [p.r]
  exact ⟨rfl, made_vld2 (by omega) (by omega) t1 (fun _ => h4) t3, h3, t2⟩
theorem mod_mem {s : Sp} {m a : Int} (h1 : 1 ≤ m) (h2 : m ≤ 1099511627776) (ha : Mem s a) : Mem (modM s m).s (a % m) := by
  have p := mod_parts s h1 h2
  generalize gcdM s.st m = g at p
  generalize s.lo % g = l at p
  have h3 := p.l0; have h4 := p.g1; have hl := p.lg
  have e1 : a % m % g = l := by
    rw [Int.emod_emod_of_dvd _ p.gm, ← p.eq]
    exact Int.emod_eq_emod_iff_emod_sub_eq_zero.2 (Int.emod_eq_zero_of_dvd (Int.dvd_trans p.gs ha.2.2))
  have e2 := Int.mul_ediv_add_emod (a % m) g
  have e3 := Int.emod_nonneg a (b := m) (by omega)
  have e4 := Int.emod_lt_of_pos a (b := m) (by omega)
  have e5 : 0 ≤ a % m / g := Int.ediv_nonneg e3 (by omega)
  have e6 := Int.mul_nonneg (show (0 : Int) ≤ g by omega) e5
  rw [e1] at e2
  have e7 : g ∣ a % m - l := ⟨a % m / g, by omega⟩
  have e8 := mul_le_of_dvd h4 e7 (y := m - 1 - l) (by omega)
  rw [p.r]
  exact made_mem (by omega) (by omega) e7
theorem mod_size (s : Sp) {m : Int} (h1 : 1 ≤ m) (h2 : m ≤ 1099511627776) : sizeM (modM s m).s = m / gcdM s.st m := by
  have p := mod_parts s h1 h2
  generalize gcdM s.st m = g at p ⊢
  generalize s.lo % g = l at p
  have h3 := p.l0; have h4 := p.g1; have hl := p.lg; have hg := p.gle
  obtain ⟨t1, t2, t3⟩ := p.top
  rw [p.r]
  obtain ⟨M, rfl⟩ := p.gm
  rw [Int.mul_ediv_cancel_left _ (by omega)]
  have e6 := Int.mul_ediv_add_emod (g * M - 1 - l) g
  have e5 := Int.emod_nonneg (g * M - 1 - l) (b := g) (by omega)
  have e5' := Int.emod_lt_of_pos (g * M - 1 - l) (b := g) (by omega)
  have e7 : (g * M - 1 - l) / g = M - 1 := by
    refine (Int.ediv_eq_iff_of_pos (by omega)).2 ⟨?_, ?_⟩
    · rw [Int.sub_mul, Int.mul_comm M g]; omega
    · rw [Int.sub_mul, Int.mul_comm M g]; omega
  rw [e7] at e6
  have e8 : g * (M - 1) = g * M - g := by rw [Int.mul_sub]; omega
  unfold sizeM madeM
  dsimp only
  by_cases hz : l = g * M - 1 - (g * M - 1 - l) % g
  · rw [if_pos hz]
    simp only [if_true]
    have hM : g * M < g * 2 := by omega
    have hM2 : M < 2 := Int.lt_of_mul_lt_mul_left hM (by omega)
    have hM3 : g * 0 < g * M := by omega
    have hM4 : 0 < M := Int.lt_of_mul_lt_mul_left hM3 (by omega)
    omega
  · rw [if_neg hz, if_neg (show ¬ g = 0 by omega)]
    have : g * M - 1 - (g * M - 1 - l) % g - l = g * (M - 1) := by omega
    rw [this, Int.mul_ediv_cancel_left _ (by omega)]
    omega
theorem bezout {a b : Int} (ha : 0 ≤ a) (hb : 0 ≤ b) : ∃ x y, a * x + b * y = gcdM a b := by
  obtain ⟨h1, h2, _⟩ := eucl_spec b.toNat a b ha hb (by omega)
  exact ⟨_, _, h2⟩
/-- Each number of the span of remainders is a remainder of one of the first m / g elements. -/
theorem mod_hit {s : Sp} {m i : Int} (h0 : 0 ≤ s.st) (h1 : 1 ≤ m) (h2 : m ≤ 1099511627776) (hi : Mem (modM s m).s i) : ∃ k : Int, 0 ≤ k ∧ k < m / gcdM s.st m ∧ (s.lo + k * s.st) % m = i := by
  obtain ⟨hv, hv1, hv2, hv3⟩ := mod_vld s h1 h2
  have hi0 := hi.1; have hi1 := hi.2.1
  have p := mod_parts s h1 h2
  obtain ⟨x, y, hxy⟩ := bezout h0 (show 0 ≤ m by omega)
  generalize gcdM s.st m = g at *
  have hl := p.eq
  rw [p.r] at hi
  obtain ⟨_, _, hd⟩ := mem_made hi
  have h4 := p.g1
  have hd2 : g ∣ i - s.lo := by
    have e := Int.mul_ediv_add_emod s.lo g
    have := Int.dvd_sub hd (Int.dvd_mul_right g (s.lo / g))
    rwa [show i - s.lo % g - g * (s.lo / g) = i - s.lo by omega] at this
  obtain ⟨c, hc⟩ := hd2
  obtain ⟨M, hM⟩ := p.gm
  obtain ⟨S, hS⟩ := p.gs
  have hMp : 0 < M := by
    have : g * 0 < g * M := by omega
    exact Int.lt_of_mul_lt_mul_left this (by omega)
  have hMe : m / g = M := by rw [hM, Int.mul_ediv_cancel_left _ (by omega)]
  rw [hMe]
  refine ⟨c * x % M, Int.emod_nonneg _ (by omega), Int.emod_lt_of_pos _ hMp, ?_⟩
  have e1 := Int.mul_ediv_add_emod (c * x) M
  have e2 : c * x % M * s.st = c * x * s.st - m * (S * (c * x / M)) := by
    have : c * x % M = c * x - M * (c * x / M) := by omega
    rw [this, Int.sub_mul, hS, hM]
    congr 1
    rw [Int.mul_comm (M * (c * x / M)), Int.mul_assoc, Int.mul_assoc, ← Int.mul_assoc S, Int.mul_comm S M, Int.mul_assoc]
  have e3 : c * x * s.st = g * c - m * (y * c) := by
    have : c * (s.st * x + m * y) = c * g := by rw [hxy]
    rw [Int.mul_add] at this
    rw [Int.mul_comm g c, ← this, Int.mul_assoc, Int.mul_comm x, Int.mul_comm y c, ← Int.mul_assoc m, Int.mul_comm m c, Int.mul_assoc c m y]
    omega
  have e4 : s.lo + c * x % M * s.st = i + m * (-(y * c) - S * (c * x / M)) := by
    rw [e2, e3, Int.mul_sub, Int.mul_neg]; omega
  rw [e4, Int.add_mul_emod_self_left]
  exact Int.emod_eq_of_lt (by omega) (by omega)

/-- Has i been hit by one of the first j elements? -/
def hitB (s : Sp) (m : Int) (j : Nat) (i : Int) : Bool := (List.range j).any fun k => (s.lo + k * s.st) % m == i
theorem hit_zero (s : Sp) (m i : Int) : hitB s m 0 i = false := rfl
theorem hit_succ (s : Sp) (m i : Int) (j : Nat) : hitB s m (j + 1) i = (hitB s m j i || ((s.lo + j * s.st) % m == i)) := by
  unfold hitB
  rw [List.range_succ, List.any_append]
  simp
theorem hit_iff (s : Sp) (m i : Int) (j : Nat) : hitB s m j i = true ↔ ∃ k : Nat, k < j ∧ (s.lo + k * s.st) % m = i := by
  unfold hitB
  rw [List.any_eq_true]
  simp
/-- The element with number j, as the loop reckons it. -/
def elM (s : Sp) (j : Nat) : Int := s.lo + j * max s.st 1
theorem elM_succ (s : Sp) (j : Nat) : elM s (j + 1) = elM s j + max s.st 1 := by
  unfold elM
  rw [Int.natCast_add, Int.add_mul]
  simp
  omega
theorem elM_mem {s : Sp} (hs : Vld s) (j : Nat) (h : elM s j ≤ s.hi) : elM s j = s.lo + j * s.st ∧ Mem s (elM s j) := by
  have h0 := hs.st0
  by_cases hz : s.st = 0
  · have h1 : s.lo = s.hi := by
      have := hs.le; have := hs.pos
      by_cases e : s.lo < s.hi
      · have := hs.pos e; omega
      · omega
    unfold elM at h ⊢
    rw [hz] at h ⊢
    have hm : max (0 : Int) 1 = 1 := by omega
    rw [hm] at h ⊢
    have : (j : Int) = 0 := by omega
    rw [this]
    refine ⟨by omega, by omega, by omega, ?_⟩
    rw [hz]; simp
  · have hm : max s.st 1 = s.st := by omega
    unfold elM at h ⊢
    rw [hm] at h ⊢
    have h3 := Int.mul_nonneg (Int.natCast_nonneg j) h0
    refine ⟨rfl, by omega, h, ?_⟩
    rw [show s.lo + j * s.st - s.lo = j * s.st by omega]
    exact Int.dvd_mul_left _ _
theorem elM_mono (s : Sp) {j k : Nat} (h : j ≤ k) : elM s j ≤ elM s k := by
  induction k with
  | zero => have : j = 0 := by omega
            subst this; exact Int.le_refl _
  | succ k ih =>
    by_cases e : j = k + 1
    · subst e; exact Int.le_refl _
    · have := ih (by omega)
      rw [elM_succ]; omega
theorem elM_size {s : Sp} (hs : Vld s) (j : Nat) (h : s.hi < elM s j) : sizeM s ≤ j := by
  have h0 := hs.st0
  have hle := hs.le
  unfold sizeM
  split
  · rename_i hz
    have : j ≠ 0 := by
      intro e; subst e
      unfold elM at h
      simp at h
      omega
    omega
  · rename_i hz
    have hm : max s.st 1 = s.st := by omega
    unfold elM at h
    rw [hm] at h
    have : (s.hi - s.lo) / s.st < j := Int.ediv_lt_of_lt_mul (by omega) (by omega)
    omega
/-- At the loop's end: where the span has enough elements, the marks are the numbers of the span of remainders. -/
theorem mods_end {s : Sp} {m i : Int} (hs : Vld s) (h1 : 1 ≤ m) (h2 : m ≤ 1099511627776) (j : Nat) (hj : ∀ k, k < j → elM s k ≤ s.hi) (hend : s.hi < elM s j) (hsz : sizeM (modM s m).s ≤ sizeM s) (hi0 : 0 ≤ i) (him : i < m) :
    hasB (modM s m).s i = hitB s m j i := by
  rw [Bool.eq_iff_iff, hasB_iff, hit_iff]
  constructor
  · intro h
    obtain ⟨k, hk0, hk1, hk2⟩ := mod_hit hs.st0 h1 h2 h
    rw [← mod_size s h1 h2] at hk1
    have h3 := elM_size hs j hend
    refine ⟨k.toNat, by omega, ?_⟩
    rw [Int.toNat_of_nonneg hk0]; exact hk2
  · rintro ⟨k, hk, rfl⟩
    obtain ⟨e, hm⟩ := elM_mem hs k (hj k hk)
    rw [← e]
    exact mod_mem h1 h2 hm
theorem rest_eq (a : Int) {m : Int} (h : 1 ≤ m) : (a.tmod m + m) % m = a % m ∧ 0 ≤ a.tmod m + m ∧ a.tmod m + m < 2 * m ∧ 0 ≤ a % m ∧ a % m < m := by
  have h1 := Int.lt_tmod_of_pos a (b := m) (by omega)
  have h2 := Int.tmod_lt_of_pos a (b := m) (by omega)
  have h3 := tmod_eq a m
  refine ⟨?_, by omega, by omega, Int.emod_nonneg _ (by omega), Int.emod_lt_of_pos _ (by omega)⟩
  rw [Int.add_emod_right]
  conv => rhs; rw [h3]
  rw [Int.add_comm, Int.add_mul_emod_self_left]
end Go.Proofs.Ytnihhchgnkfcgaa
