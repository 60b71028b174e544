/- Plain mathematics of spans: sums, differences, products: they hold all elements, and are least (the statements SpanSums, SpanLeast). -/
import Derived.Test.YtnihhchgnkfcgaaPh
set_option linter.unusedSimpArgs false
set_option linter.unusedVariables false
namespace Go.Proofs.Ytnihhchgnkfcgaa

/-- A step that divides a difference which is not nothing is positive. -/
theorem step_pos {g x y : Int} (h0 : 0 ≤ g) (h : g ∣ y - x) (hl : x < y) : 1 ≤ g := by
  rcases Int.lt_or_eq_of_le h0 with h1 | h1
  · omega
  · rw [← h1] at h
    have := Int.zero_dvd.1 h
    omega

/-! ### sums -/
theorem addM_ok {s t : Sp} (hs : Vld s) (ht : Vld t) : (addM s t).e = 0 ↔ -1099511627776 ≤ s.lo + t.lo ∧ s.hi + t.hi ≤ 1099511627776 := by
  have h1 := hs.le; have h2 := ht.le
  unfold addM boundedM
  have e : (nearB (s.lo + t.lo) && nearB (s.hi + t.hi)) = true ↔ -1099511627776 ≤ s.lo + t.lo ∧ s.hi + t.hi ≤ 1099511627776 := by
    simp only [Bool.and_eq_true, nearB_iff]; omega
  split
  · rename_i h; exact ⟨fun _ => e.1 h, fun _ => rfl⟩
  · rename_i h; exact ⟨fun h3 => absurd h3 (by dsimp only; decide), fun h3 => absurd (e.2 h3) h⟩
theorem add_eq {s t : Sp} (h : (addM s t).e = 0) : (addM s t).s = madeM (s.lo + t.lo) (s.hi + t.hi) (gcdM s.st t.st) ∧ nearB (s.lo + t.lo) = true ∧ nearB (s.hi + t.hi) = true := by
  unfold addM boundedM at *
  split
  · rename_i h2
    rw [Bool.and_eq_true] at h2
    exact ⟨rfl, h2.1, h2.2⟩
  · rename_i h2
    rw [if_neg h2] at h
    exact absurd h (by dsimp only; decide)
theorem add_dvd {s t : Sp} {a b : Int} (h1 : Mem s a) (h2 : Mem t b) : gcdM s.st t.st ∣ a + b - (s.lo + t.lo) := by
  have e : a + b - (s.lo + t.lo) = (a - s.lo) + (b - t.lo) := by omega
  rw [e]
  exact Int.dvd_add (Int.dvd_trans (gcdM_dvd_left _ _) h1.2.2) (Int.dvd_trans (gcdM_dvd_right _ _) h2.2.2)
theorem add_vld {s t : Sp} (hs : Vld s) (ht : Vld t) (h : (addM s t).e = 0) : Vld (addM s t).s := by
  obtain ⟨e, n1, n2⟩ := add_eq h
  have h1 := (nearB_iff _).1 n1; have h2 := (nearB_iff _).1 n2
  have d := add_dvd (mem_self_hi hs) (mem_self_hi ht)
  rw [e]
  exact made_vld2 h1.1 h2.2 (by have := hs.le; have := ht.le; omega) (fun hl => step_pos (gcdM_nonneg _ _) d hl) d
theorem add_mem {s t : Sp} {a b : Int} (h : (addM s t).e = 0) (h1 : Mem s a) (h2 : Mem t b) : Mem (addM s t).s (a + b) := by
  rw [(add_eq h).1]
  exact made_mem (by have := h1.1; have := h2.1; omega) (by have := h1.2.1; have := h2.2.1; omega) (add_dvd h1 h2)
theorem add_least {s t r : Sp} (hs : Vld s) (ht : Vld t) (h : (addM s t).e = 0) (hr : ∀ a b, Mem s a → Mem t b → Mem r (a + b)) : Sub (addM s t).s r := by
  rw [(add_eq h).1]
  have m0 := hr _ _ (mem_self_lo hs) (mem_self_lo ht)
  have m1 := Int.dvd_sub (hr _ _ (mem_next hs) (mem_self_lo ht)).2.2 m0.2.2
  have m2 := Int.dvd_sub (hr _ _ (mem_self_lo hs) (mem_next ht)).2.2 m0.2.2
  have e1 : s.lo + s.st + t.lo - r.lo - (s.lo + t.lo - r.lo) = s.st := by omega
  have e2 : s.lo + (t.lo + t.st) - r.lo - (s.lo + t.lo - r.lo) = t.st := by omega
  rw [e1] at m1; rw [e2] at m2
  exact made_sub m0 (hr _ _ (mem_self_hi hs) (mem_self_hi ht)) (dvd_gcdM m1 m2)

/-! ### differences: the sum with the mirrored span -/
def negS (t : Sp) : Sp := ⟨-t.hi, -t.lo, t.st⟩
theorem neg_vld {t : Sp} (ht : Vld t) : Vld (negS t) := by
  have h1 := ht.lo; have h2 := ht.le; have h3 := ht.hi; have h4 := ht.one; have h5 := ht.pos; have h6 := ht.dvd
  refine ⟨by unfold negS; dsimp only; omega, by unfold negS; dsimp only; omega, by unfold negS; dsimp only; omega, fun h => h4 (by unfold negS at h; dsimp only at h; omega), fun h => h5 (by unfold negS at h; dsimp only at h; omega), ?_⟩
  unfold negS; dsimp only
  have e : -t.lo - -t.hi = t.hi - t.lo := by omega
  rw [e]; exact h6
theorem neg_mem {t : Sp} (ht : Vld t) {b : Int} (h : Mem t b) : Mem (negS t) (-b) := by
  have h1 := h.1; have h2 := h.2.1
  refine ⟨by unfold negS; dsimp only; omega, by unfold negS; dsimp only; omega, ?_⟩
  unfold negS; dsimp only
  have e : -b - -t.hi = (t.hi - t.lo) - (b - t.lo) := by omega
  rw [e]; exact Int.dvd_sub ht.dvd h.2.2
theorem mem_neg {t : Sp} (ht : Vld t) {b : Int} (h : Mem (negS t) b) : Mem t (-b) := by
  obtain ⟨h1, h2, h3⟩ := h
  unfold negS at h1 h2 h3; dsimp only at h1 h2 h3
  refine ⟨by omega, by omega, ?_⟩
  have e : -b - t.lo = (t.hi - t.lo) - (b - -t.hi) := by omega
  rw [e]; exact Int.dvd_sub ht.dvd h3
theorem sub_add (s t : Sp) : subM s t = addM s (negS t) := by
  unfold subM addM negS
  have e1 : s.lo + -t.hi = s.lo - t.hi := by omega
  have e2 : s.hi + -t.lo = s.hi - t.lo := by omega
  dsimp only
  rw [e1, e2]
theorem subM_ok {s t : Sp} (hs : Vld s) (ht : Vld t) : (subM s t).e = 0 ↔ -1099511627776 ≤ s.lo - t.hi ∧ s.hi - t.lo ≤ 1099511627776 := by
  rw [sub_add, addM_ok hs (neg_vld ht)]
  unfold negS; dsimp only
  omega
theorem sub_vld {s t : Sp} (hs : Vld s) (ht : Vld t) (h : (subM s t).e = 0) : Vld (subM s t).s := by
  rw [sub_add] at *; exact add_vld hs (neg_vld ht) h
theorem sub_mem {s t : Sp} {a b : Int} (ht : Vld t) (h : (subM s t).e = 0) (h1 : Mem s a) (h2 : Mem t b) : Mem (subM s t).s (a - b) := by
  rw [sub_add] at *
  have := add_mem h h1 (neg_mem ht h2)
  have e : a + -b = a - b := by omega
  rwa [e] at this
theorem sub_least {s t r : Sp} (hs : Vld s) (ht : Vld t) (h : (subM s t).e = 0) (hr : ∀ a b, Mem s a → Mem t b → Mem r (a - b)) : Sub (subM s t).s r := by
  rw [sub_add] at *
  refine add_least hs (neg_vld ht) h fun a b h1 h2 => ?_
  have := hr a (-b) h1 (mem_neg ht h2)
  have e : a - -b = a + b := by omega
  rwa [e] at this

/-! ### products -/
def mg (s t : Sp) : Int := gcdM (gcdM (s.lo * t.st) (t.lo * s.st)) (s.st * t.st)
theorem mg_1 (s t : Sp) : mg s t ∣ s.lo * t.st := Int.dvd_trans (gcdM_dvd_left _ _) (gcdM_dvd_left _ _)
theorem mg_2 (s t : Sp) : mg s t ∣ t.lo * s.st := Int.dvd_trans (gcdM_dvd_left _ _) (gcdM_dvd_right _ _)
theorem mg_3 (s t : Sp) : mg s t ∣ s.st * t.st := gcdM_dvd_right _ _
theorem mg_cong {s t : Sp} {a b : Int} (h1 : s.st ∣ a - s.lo) (h2 : t.st ∣ b - t.lo) : mg s t ∣ a * b - s.lo * t.lo := by
  obtain ⟨i, hi⟩ := h1
  obtain ⟨j, hj⟩ := h2
  have ea : a = s.lo + s.st * i := by omega
  have eb : b = t.lo + t.st * j := by omega
  have e : a * b - s.lo * t.lo = s.lo * t.st * j + t.lo * s.st * i + s.st * t.st * (i * j) := by
    rw [ea, eb]
    have : (s.lo + s.st * i) * (t.lo + t.st * j) = s.lo * t.lo + s.lo * (t.st * j) + (s.st * i * t.lo + s.st * i * (t.st * j)) := by
      rw [Int.add_mul, Int.mul_add, Int.mul_add]
    rw [this]
    have e1 : s.lo * (t.st * j) = s.lo * t.st * j := by rw [Int.mul_assoc]
    have e2 : s.st * i * t.lo = t.lo * s.st * i := by rw [Int.mul_comm (s.st * i), ← Int.mul_assoc]
    have e3 : s.st * i * (t.st * j) = s.st * t.st * (i * j) := by rw [Int.mul_assoc, Int.mul_assoc, Int.mul_left_comm i]
    rw [e1, e2, e3]
    omega
  rw [e]
  exact Int.dvd_add (Int.dvd_add (Int.dvd_mul_of_dvd_left (mg_1 s t)) (Int.dvd_mul_of_dvd_left (mg_2 s t))) (Int.dvd_mul_of_dvd_left (mg_3 s t))
theorem lin_bd {u l h x : Int} (h1 : l ≤ x) (h2 : x ≤ h) : min (l * u) (h * u) ≤ x * u ∧ x * u ≤ max (l * u) (h * u) := by
  rcases Int.le_total 0 u with hu | hu
  · have a := Int.mul_le_mul_of_nonneg_right h1 hu
    have b := Int.mul_le_mul_of_nonneg_right h2 hu
    omega
  · have a := Int.mul_le_mul_of_nonpos_right h1 hu
    have b := Int.mul_le_mul_of_nonpos_right h2 hu
    omega
theorem quad_bd {l h l' h' a b : Int} (h1 : l ≤ a) (h2 : a ≤ h) (h3 : l' ≤ b) (h4 : b ≤ h') :
    min4 (l * l') (l * h') (h * l') (h * h') ≤ a * b ∧ a * b ≤ max4 (l * l') (l * h') (h * l') (h * h') := by
  have x := lin_bd (u := b) h1 h2
  have y := lin_bd (u := l) h3 h4
  have z := lin_bd (u := h) h3 h4
  rw [Int.mul_comm l' l, Int.mul_comm h' l, Int.mul_comm b l] at y
  rw [Int.mul_comm l' h, Int.mul_comm h' h, Int.mul_comm b h] at z
  unfold min4 max4
  omega
theorem min4_or (a b c d : Int) : min4 a b c d = a ∨ min4 a b c d = b ∨ min4 a b c d = c ∨ min4 a b c d = d := by unfold min4; omega
theorem max4_or (a b c d : Int) : max4 a b c d = a ∨ max4 a b c d = b ∨ max4 a b c d = c ∨ max4 a b c d = d := by unfold max4; omega
def mL4 (s t : Sp) : Int := min4 (s.lo * t.lo) (s.lo * t.hi) (s.hi * t.lo) (s.hi * t.hi)
def mH4 (s t : Sp) : Int := max4 (s.lo * t.lo) (s.lo * t.hi) (s.hi * t.lo) (s.hi * t.hi)
/-- What the ends and the step of a product have. -/
theorem mul_core {s t : Sp} (hs : s.lo ≤ s.hi) (ht : t.lo ≤ t.hi) (ds : s.st ∣ s.hi - s.lo) (dt : t.st ∣ t.hi - t.lo) :
    mL4 s t ≤ mH4 s t ∧ mg s t ∣ mH4 s t - mL4 s t ∧ (∀ a b, Mem s a → Mem t b → mL4 s t ≤ a * b ∧ a * b ≤ mH4 s t ∧ mg s t ∣ a * b - mL4 s t) := by
  have z1 : s.st ∣ s.lo - s.lo := by simp
  have z2 : t.st ∣ t.lo - t.lo := by simp
  have c1 := mg_cong (s := s) (t := t) z1 z2
  have c2 := mg_cong (s := s) (t := t) z1 dt
  have c3 := mg_cong (s := s) (t := t) ds z2
  have c4 := mg_cong (s := s) (t := t) ds dt
  have cl : mg s t ∣ mL4 s t - s.lo * t.lo := by
    rcases min4_or (s.lo * t.lo) (s.lo * t.hi) (s.hi * t.lo) (s.hi * t.hi) with h | h | h | h <;> (unfold mL4; rw [h]; assumption)
  have ch : mg s t ∣ mH4 s t - s.lo * t.lo := by
    rcases max4_or (s.lo * t.lo) (s.lo * t.hi) (s.hi * t.lo) (s.hi * t.hi) with h | h | h | h <;> (unfold mH4; rw [h]; assumption)
  have tr : ∀ x, mg s t ∣ x - s.lo * t.lo → mg s t ∣ x - mL4 s t := fun x hx => by
    have := Int.dvd_sub hx cl
    have e : x - s.lo * t.lo - (mL4 s t - s.lo * t.lo) = x - mL4 s t := by omega
    rwa [e] at this
  refine ⟨?_, tr _ ch, fun a b h1 h2 => ?_⟩
  · unfold mL4 mH4 min4 max4; omega
  · have q := quad_bd h1.1 h1.2.1 h2.1 h2.2.1
    exact ⟨q.1, q.2, tr _ (mg_cong h1.2.2 h2.2.2)⟩
theorem mul_eq {s t : Sp} (h : (mulM s t).e = 0) : (mulM s t).s = madeM (mL4 s t) (mH4 s t) (mg s t) ∧ fits4 s t = true := by
  unfold mulM at *
  split
  · rename_i h2; exact ⟨rfl, h2⟩
  · rename_i h2
    rw [if_neg h2] at h
    exact absurd h (by dsimp only; decide)
theorem fits_ends {s t : Sp} (h : fits4 s t = true) : -1099511627776 ≤ mL4 s t ∧ mH4 s t ≤ 1099511627776 := by
  have := (fits4_iff s t).1 h
  unfold mL4 mH4 min4 max4
  omega
theorem mul_vld {s t : Sp} (hs : Vld s) (ht : Vld t) (h : (mulM s t).e = 0) : Vld (mulM s t).s := by
  obtain ⟨e, hf⟩ := mul_eq h
  obtain ⟨a, b⟩ := fits_ends hf
  obtain ⟨c, d, _⟩ := mul_core hs.le ht.le hs.dvd ht.dvd
  rw [e]
  exact made_vld2 a b c (fun hl => step_pos (gcdM_nonneg _ _) d hl) d
theorem mul_mem {s t : Sp} (hs : Vld s) (ht : Vld t) {a b : Int} (h : (mulM s t).e = 0) (h1 : Mem s a) (h2 : Mem t b) : Mem (mulM s t).s (a * b) := by
  obtain ⟨x, y, z⟩ := (mul_core hs.le ht.le hs.dvd ht.dvd).2.2 a b h1 h2
  rw [(mul_eq h).1]
  exact made_mem x y z
theorem mul_least {s t r : Sp} (hs : Vld s) (ht : Vld t) (h : (mulM s t).e = 0) (hr : ∀ a b, Mem s a → Mem t b → Mem r (a * b)) : Sub (mulM s t).s r := by
  rw [(mul_eq h).1]
  have sl := mem_self_lo hs; have sh := mem_self_hi hs; have tl := mem_self_lo ht; have th := mem_self_hi ht
  have k1 := hr _ _ sl tl; have k2 := hr _ _ sl th; have k3 := hr _ _ sh tl; have k4 := hr _ _ sh th
  have ml : Mem r (mL4 s t) := by
    rcases min4_or (s.lo * t.lo) (s.lo * t.hi) (s.hi * t.lo) (s.hi * t.hi) with h | h | h | h <;> (unfold mL4; rw [h]; assumption)
  have mh : Mem r (mH4 s t) := by
    rcases max4_or (s.lo * t.lo) (s.lo * t.hi) (s.hi * t.lo) (s.hi * t.hi) with h | h | h | h <;> (unfold mH4; rw [h]; assumption)
  have d1 : r.st ∣ s.lo * t.st := by
    have := Int.dvd_sub (hr _ _ sl (mem_next ht)).2.2 k1.2.2
    have e : s.lo * (t.lo + t.st) - r.lo - (s.lo * t.lo - r.lo) = s.lo * t.st := by rw [Int.mul_add]; omega
    rwa [e] at this
  have d2 : r.st ∣ t.lo * s.st := by
    have := Int.dvd_sub (hr _ _ (mem_next hs) tl).2.2 k1.2.2
    have e : (s.lo + s.st) * t.lo - r.lo - (s.lo * t.lo - r.lo) = t.lo * s.st := by rw [Int.add_mul, Int.mul_comm s.st]; omega
    rwa [e] at this
  have d3 : r.st ∣ s.st * t.st := by
    have := Int.dvd_sub (hr _ _ (mem_next hs) (mem_next ht)).2.2 (hr _ _ (mem_next hs) tl).2.2
    have e : (s.lo + s.st) * (t.lo + t.st) - r.lo - ((s.lo + s.st) * t.lo - r.lo) = s.lo * t.st + s.st * t.st := by rw [Int.mul_add, Int.add_mul s.lo s.st t.st]; omega
    rw [e] at this
    have h2 := Int.dvd_sub this d1
    have e2 : s.lo * t.st + s.st * t.st - s.lo * t.st = s.st * t.st := by omega
    rwa [e2] at h2
  exact made_sub ml mh (dvd_gcdM (dvd_gcdM d1 d2) d3)

/-! ### scaling -/
theorem scale_eq {s : Sp} {k : Int} (h : (scaleM s k).e = 0) : (scaleM s k).s = madeM (min (s.lo * k) (s.hi * k)) (max (s.lo * k) (s.hi * k)) (s.st * k).natAbs ∧ fitsB s.lo k = true ∧ fitsB s.hi k = true := by
  unfold scaleM at *
  split
  · rename_i h2; rw [Bool.and_eq_true] at h2; exact ⟨rfl, h2.1, h2.2⟩
  · rename_i h2
    rw [if_neg h2] at h
    exact absurd h (by dsimp only; decide)
theorem sc_dvd {s : Sp} {k a : Int} (h : s.st ∣ a - s.lo) : ((s.st * k).natAbs : Int) ∣ a * k - s.lo * k := by
  rw [Int.natAbs_dvd, ← Int.sub_mul]
  exact Int.mul_dvd_mul_right k h
theorem sc_dvd2 {s : Sp} {k a : Int} (hd : s.st ∣ s.hi - s.lo) (h : s.st ∣ a - s.lo) : ((s.st * k).natAbs : Int) ∣ a * k - min (s.lo * k) (s.hi * k) := by
  have h1 := sc_dvd (k := k) h
  rcases Int.le_total (s.lo * k) (s.hi * k) with hm | hm
  · rw [Int.min_eq_left hm]; exact h1
  · rw [Int.min_eq_right hm]
    have := Int.dvd_sub h1 (sc_dvd (k := k) hd)
    have e : a * k - s.lo * k - (s.hi * k - s.lo * k) = a * k - s.hi * k := by omega
    rwa [e] at this
theorem scale_vld {s : Sp} {k : Int} (hs : Vld s) (h : (scaleM s k).e = 0) : Vld (scaleM s k).s := by
  obtain ⟨e, f1, f2⟩ := scale_eq h
  have g1 := (fitsB_iff _ _).1 f1; have g2 := (fitsB_iff _ _).1 f2
  have d : ((s.st * k).natAbs : Int) ∣ max (s.lo * k) (s.hi * k) - min (s.lo * k) (s.hi * k) := by
    rcases Int.le_total (s.lo * k) (s.hi * k) with hm | hm
    · rw [Int.max_eq_right hm]; exact sc_dvd2 hs.dvd hs.dvd
    · rw [Int.max_eq_left hm]; exact sc_dvd2 hs.dvd (by simp)
  rw [e]
  exact made_vld2 (by omega) (by omega) (by omega) (fun hl => step_pos (by omega) d hl) d
theorem scale_mem {s : Sp} {k a : Int} (hs : Vld s) (h : (scaleM s k).e = 0) (h1 : Mem s a) : Mem (scaleM s k).s (a * k) := by
  have q := lin_bd (u := k) h1.1 h1.2.1
  rw [(scale_eq h).1]
  exact made_mem q.1 q.2 (sc_dvd2 hs.dvd h1.2.2)
end Go.Proofs.Ytnihhchgnkfcgaa
