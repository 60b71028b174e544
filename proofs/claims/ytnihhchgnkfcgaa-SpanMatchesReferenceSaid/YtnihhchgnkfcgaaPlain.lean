/- Plain mathematics of spans: what each function of layer 25 computes, as a Lean function on integers, and the laws of these functions. No program in sight. -/
set_option linter.unusedSimpArgs false
set_option linter.unusedVariables false
namespace Go.Proofs.Ytnihhchgnkfcgaa

/-- A span: least element, greatest element, step. -/
structure Sp where
  lo : Int
  hi : Int
  st : Int

theorem Sp.ext' {s t : Sp} (h1 : s.lo = t.lo) (h2 : s.hi = t.hi) (h3 : s.st = t.st) : s = t := by
  cases s; cases t; simp_all

def nearB (n : Int) : Bool := decide (-1099511627776 ≤ n) && decide (n ≤ 1099511627776)
theorem nearB_iff (n : Int) : nearB n = true ↔ -1099511627776 ≤ n ∧ n ≤ 1099511627776 := by simp [nearB]

def madeM (lo hi st : Int) : Sp := ⟨lo, hi, if lo = hi then 0 else st⟩

/-- Valid spans. -/
structure Vld (s : Sp) : Prop where
  lo : -1099511627776 ≤ s.lo
  le : s.lo ≤ s.hi
  hi : s.hi ≤ 1099511627776
  one : s.lo = s.hi → s.st = 0
  pos : s.lo < s.hi → 1 ≤ s.st
  dvd : s.st ∣ s.hi - s.lo

def vldB (s : Sp) : Bool := nearB s.lo && nearB s.hi && decide (s.lo ≤ s.hi) && (if s.lo = s.hi then decide (s.st = 0) else decide (0 < s.st) && decide ((s.hi - s.lo) % s.st = 0))

theorem vldB_iff (s : Sp) : vldB s = true ↔ Vld s := by
  unfold vldB
  constructor
  · intro h
    simp only [Bool.and_eq_true, nearB_iff, decide_eq_true_eq] at h
    obtain ⟨⟨⟨⟨a, b⟩, c, d⟩, e⟩, f⟩ := h
    by_cases g : s.lo = s.hi
    · simp only [g, if_true, decide_eq_true_eq] at f
      exact ⟨a, e, d, fun _ => f, fun h => by omega, by rw [g]; simp⟩
    · simp only [g, if_false, Bool.and_eq_true, decide_eq_true_eq] at f
      exact ⟨a, e, d, fun h => absurd h g, fun _ => by omega, Int.dvd_of_emod_eq_zero f.2⟩
  · intro ⟨a, b, c, d, e, f⟩
    simp only [Bool.and_eq_true, nearB_iff, decide_eq_true_eq]
    refine ⟨⟨⟨⟨a, by omega⟩, by omega, c⟩, b⟩, ?_⟩
    by_cases g : s.lo = s.hi
    · simp [g, d g]
    · have := e (by omega)
      simp only [g, if_false, Bool.and_eq_true, decide_eq_true_eq]
      exact ⟨by omega, Int.emod_eq_zero_of_dvd f⟩

theorem Vld.st0 {s : Sp} (h : Vld s) : 0 ≤ s.st := by
  by_cases g : s.lo = s.hi
  · have := h.one g; omega
  · have := h.pos (by have := h.le; omega); omega
theorem Vld.stle {s : Sp} (h : Vld s) : s.st ≤ s.hi - s.lo := by
  by_cases g : s.lo = s.hi
  · have := h.one g; omega
  · exact Int.le_of_dvd (by have := h.le; omega) h.dvd

/-- An element. -/
def Mem (s : Sp) (n : Int) : Prop := s.lo ≤ n ∧ n ≤ s.hi ∧ s.st ∣ n - s.lo
def hasB (s : Sp) (n : Int) : Bool := decide (s.lo ≤ n) && decide (n ≤ s.hi) && decide ((n - s.lo) % s.st = 0)
theorem hasB_iff (s : Sp) (n : Int) : hasB s n = true ↔ Mem s n := by
  simp only [hasB, Mem, Bool.and_eq_true, decide_eq_true_eq, and_assoc, Int.dvd_iff_emod_eq_zero]

def sizeM (s : Sp) : Int := if s.st = 0 then 1 else (s.hi - s.lo) / s.st + 1

def gcdM (a b : Int) : Int := (Int.gcd a b : Nat)

theorem gcd_step (g n : Int) : Int.gcd n (Int.tmod g n) = Int.gcd g n := by
  have h : Int.tmod g n = g - n * Int.tdiv g n := by have := Int.mul_tdiv_add_tmod g n; omega
  rw [h, Int.gcd_comm g n]
  apply Nat.dvd_antisymm
  · apply Int.dvd_gcd
    · exact Int.gcd_dvd_left ..
    · have h1 := Int.gcd_dvd_left n (g - n * Int.tdiv g n)
      have h2 := Int.gcd_dvd_right n (g - n * Int.tdiv g n)
      have h3 := Int.dvd_add h2 (Int.dvd_mul_of_dvd_left (b := n) (c := Int.tdiv g n) h1)
      simpa using h3
  · apply Int.dvd_gcd
    · exact Int.gcd_dvd_left ..
    · exact Int.dvd_sub (Int.gcd_dvd_right ..) (Int.dvd_mul_of_dvd_left (Int.gcd_dvd_left ..))

theorem ediv_bd {a b : Int} (hb : 1 ≤ b) : (0 ≤ a → 0 ≤ a / b ∧ a / b ≤ a) ∧ (a < 0 → a ≤ a / b ∧ a / b < 0) := by
  have h1 := Int.mul_ediv_add_emod a b
  have h2 := Int.emod_nonneg a (b := b) (by omega)
  have h3 := Int.emod_lt_of_pos a (b := b) (by omega)
  refine ⟨fun h => ⟨Int.ediv_nonneg h (by omega), Int.ediv_le_self _ h⟩, fun h => ?_⟩
  have h4 : a / b < 0 := Int.ediv_neg_of_neg_of_pos h (by omega)
  refine ⟨?_, h4⟩
  have h5 : (b - 1) * (a / b + 1) ≤ 0 := Int.mul_nonpos_of_nonneg_of_nonpos (by omega) (by omega)
  rw [Int.sub_mul, Int.mul_add] at h5
  omega

theorem tmod_eq (a b : Int) : a = b * a.tdiv b + a.tmod b := by have := Int.mul_tdiv_add_tmod a b; omega

theorem tdiv_floor_neg {a b : Int} (hb : 1 ≤ b) (h : a.tmod b < 0) : a.tdiv b - 1 = a / b := by
  have h1 := tmod_eq a b
  have h2 : -b < a.tmod b := by
    have := Int.lt_tmod_of_pos a (b := b) (by omega)
    omega
  refine (Int.ediv_eq_iff_of_pos (by omega)).2 ?_ |>.symm
  constructor
  · rw [Int.sub_mul, Int.mul_comm]; omega
  · rw [Int.sub_mul, Int.mul_comm]; omega

theorem tdiv_floor_pos {a b : Int} (hb : 1 ≤ b) (h : 0 ≤ a.tmod b) : a.tdiv b = a / b := by
  have h1 := tmod_eq a b
  have h2 : a.tmod b < b := Int.tmod_lt_of_pos a (by omega)
  refine (Int.ediv_eq_iff_of_pos (by omega)).2 ?_ |>.symm
  constructor
  · rw [Int.mul_comm]; omega
  · rw [Int.mul_comm]; omega

/-- The greatest common divisor of a list. -/
def gcdN (l : List Int) : Nat := l.foldl (fun a z => Nat.gcd a z.natAbs) 0
theorem gcdN_snoc (l : List Int) (z : Int) : gcdN (l ++ [z]) = Nat.gcd (gcdN l) z.natAbs := by simp [gcdN]
theorem gcdN_one (a : Int) : gcdN [a] = a.natAbs := by simp [gcdN]
theorem gcdN_two (a b : Int) : (gcdN [a, b] : Int) = gcdM a b := by simp [gcdN, gcdM, Int.gcd]
theorem gcdN_three (a b c : Int) : (gcdN [a, b, c] : Int) = gcdM (gcdM a b) c := by simp [gcdN, gcdM, Int.gcd]
theorem take_snoc_int (zs : List Int) (k : Nat) (h : k < zs.length) : zs.take (k + 1) = zs.take k ++ [zs[k]] := by
  rw [List.take_succ_eq_append_getElem h]

theorem max_neg_abs (g : Int) : max g (-g) = g.natAbs := by omega
theorem tmod_abs_lt (g n : Int) (h : n ≠ 0) : (g.tmod n).natAbs < n.natAbs := by
  have := Int.natAbs_tmod g n
  rw [this]
  exact Nat.mod_lt _ (by omega)

def zsp : Sp := ⟨0, 0, 0⟩
/-- A span and an error. -/
structure Spe where
  s : Sp
  e : Int
def boundedM (lo hi st : Int) : Spe := if nearB lo && nearB hi then ⟨madeM lo hi st, 0⟩ else ⟨zsp, 2⟩
def ofM (lo hi st : Int) : Spe := if nearB lo && nearB hi && decide (lo ≤ hi) && decide (1 ≤ st) then ⟨madeM lo (hi - (hi - lo) % st) st, 0⟩ else ⟨zsp, 1⟩
def pickM (s : Sp) (i : Int) : Int := s.lo + s.st * (i % sizeM s)
def insideB (s t : Sp) : Bool := hasB t s.lo && hasB t s.hi && hasB t (s.lo + s.st)

theorem size_pos {s : Sp} (h0 : 0 ≤ s.st) (h : s.lo ≤ s.hi) : 1 ≤ sizeM s := by
  unfold sizeM
  split
  · omega
  · have := Int.ediv_nonneg (a := s.hi - s.lo) (b := s.st) (by omega) h0
    omega
theorem pick_bd {s : Sp} (i : Int) (h0 : 0 ≤ s.st) (h : s.lo ≤ s.hi) : 0 ≤ i % sizeM s ∧ i % sizeM s < sizeM s ∧ 0 ≤ s.st * (i % sizeM s) ∧ s.st * (i % sizeM s) ≤ s.hi - s.lo := by
  have h1 := size_pos h0 h
  have h2 := Int.emod_nonneg i (b := sizeM s) (by omega)
  have h3 := Int.emod_lt_of_pos i (b := sizeM s) (by omega)
  refine ⟨h2, h3, Int.mul_nonneg h0 h2, ?_⟩
  by_cases hz : s.st = 0
  · rw [hz]; omega
  · have h4 : sizeM s = (s.hi - s.lo) / s.st + 1 := by simp [sizeM, hz]
    have h5 : i % sizeM s ≤ (s.hi - s.lo) / s.st := by omega
    have h6 := Int.mul_le_mul_of_nonneg_left h5 h0
    have h7 := Int.mul_ediv_self_le (x := s.hi - s.lo) (k := s.st) (by omega)
    omega

end Go.Proofs.Ytnihhchgnkfcgaa
