/- Plain mathematics of spans: a span inside of another one, the join as the least upper bound, and the laws of order of SpanOrder. -/
import Derived.Test.YtnihhchgnkfcgaaPe
set_option linter.unusedSimpArgs false
set_option linter.unusedVariables false
namespace Go.Proofs.Ytnihhchgnkfcgaa

/-- All elements of s are elements of t. -/
def Sub (s t : Sp) : Prop := ∀ n, Mem s n → Mem t n
theorem Sub.refl (s : Sp) : Sub s s := fun _ h => h
theorem Sub.trans {s t u : Sp} (h : Sub s t) (h2 : Sub t u) : Sub s u := fun n hn => h2 n (h n hn)

theorem mem_next {s : Sp} (h : Vld s) : Mem s (s.lo + s.st) := by
  have h1 := h.stle
  have h2 := h.st0
  exact ⟨by omega, by omega, ⟨1, by omega⟩⟩
/-- The steps of a span that holds three neighbours divide. -/
theorem sub_of_three {s t : Sp} (h1 : Mem t s.lo) (h2 : Mem t s.hi) (h3 : Mem t (s.lo + s.st)) : Sub s t := by
  intro n hn
  have hd : t.st ∣ s.st := by
    have := Int.dvd_sub h3.2.2 h1.2.2
    have e : s.lo + s.st - t.lo - (s.lo - t.lo) = s.st := by omega
    rwa [e] at this
  refine ⟨Int.le_trans h1.1 hn.1, Int.le_trans hn.2.1 h2.2.1, ?_⟩
  have e : n - t.lo = (n - s.lo) + (s.lo - t.lo) := by omega
  rw [e]
  exact Int.dvd_add (Int.dvd_trans hd hn.2.2) h1.2.2
theorem inside_iff {s : Sp} (hs : Vld s) (t : Sp) : insideB s t = true ↔ Sub s t := by
  simp only [insideB, Bool.and_eq_true, hasB_iff]
  constructor
  · intro ⟨⟨a, b⟩, c⟩; exact sub_of_three a b c
  · intro h; exact ⟨⟨h _ (mem_self_lo hs), h _ (mem_self_hi hs)⟩, h _ (mem_next hs)⟩

/-- A number that divides all differences of a span's elements divides its step. -/
theorem st_dvd {s r : Sp} (hs : Vld s) (h : Sub s r) : r.st ∣ s.st := by
  have := Int.dvd_sub (h _ (mem_next hs)).2.2 (h _ (mem_self_lo hs)).2.2
  have e : s.lo + s.st - r.lo - (s.lo - r.lo) = s.st := by omega
  rwa [e] at this

/-- Spans made of two ends and a step. -/
theorem made_lo (lo hi st : Int) : (madeM lo hi st).lo = lo := rfl
theorem made_hi (lo hi st : Int) : (madeM lo hi st).hi = hi := rfl
theorem made_vld2 {lo hi st : Int} (h1 : -1099511627776 ≤ lo) (h2 : hi ≤ 1099511627776) (h : lo ≤ hi) (h3 : lo < hi → 1 ≤ st) (h4 : st ∣ hi - lo) : Vld (madeM lo hi st) := by
  unfold madeM
  by_cases e : lo = hi
  · rw [if_pos e]; exact ⟨h1, h, h2, fun _ => rfl, fun g => by dsimp only at g; omega, by dsimp only; rw [e]; simp⟩
  · rw [if_neg e]; exact ⟨h1, h, h2, fun g => absurd g e, fun g => h3 g, h4⟩
theorem made_mem {lo hi st n : Int} (h1 : lo ≤ n) (h2 : n ≤ hi) (h3 : st ∣ n - lo) : Mem (madeM lo hi st) n := by
  unfold madeM
  refine ⟨h1, h2, ?_⟩
  dsimp only
  split
  · have : n - lo = 0 := by omega
    rw [this]; simp
  · exact h3
theorem mem_made {lo hi st n : Int} (h : Mem (madeM lo hi st) n) : lo ≤ n ∧ n ≤ hi ∧ st ∣ n - lo := by
  unfold madeM at h
  obtain ⟨a, b, c⟩ := h
  dsimp only at a b c
  refine ⟨a, b, ?_⟩
  split at c
  · have : n - lo = 0 := by omega
    rw [this]; simp
  · exact c
theorem made_sub {lo hi st : Int} {r : Sp} (h1 : Mem r lo) (h2 : Mem r hi) (h3 : r.st ∣ st) : Sub (madeM lo hi st) r := by
  intro n hn
  obtain ⟨a, b, c⟩ := mem_made hn
  refine ⟨Int.le_trans h1.1 a, Int.le_trans b h2.2.1, ?_⟩
  have e : n - r.lo = (n - lo) + (lo - r.lo) := by omega
  rw [e]
  exact Int.dvd_add (Int.dvd_trans h3 c) h1.2.2

/-- The step of a join. -/
def jg (a b : Sp) : Int := gcdM (gcdM a.st b.st) (a.lo - b.lo)
theorem joinM_eq (a b : Sp) : joinM a b = madeM (min a.lo b.lo) (max a.hi b.hi) (jg a b) := rfl
theorem jg_a (a b : Sp) : jg a b ∣ a.st := Int.dvd_trans (gcdM_dvd_left _ _) (gcdM_dvd_left _ _)
theorem jg_b (a b : Sp) : jg a b ∣ b.st := Int.dvd_trans (gcdM_dvd_left _ _) (gcdM_dvd_right _ _)
theorem jg_d (a b : Sp) : jg a b ∣ a.lo - b.lo := gcdM_dvd_right _ _
theorem jg_ca {a b : Sp} {n : Int} (h : Mem a n) : jg a b ∣ n - a.lo := Int.dvd_trans (jg_a a b) h.2.2
theorem jg_cb {a b : Sp} {n : Int} (h : Mem b n) : jg a b ∣ n - a.lo := by
  have e : n - a.lo = (n - b.lo) - (a.lo - b.lo) := by omega
  rw [e]
  exact Int.dvd_sub (Int.dvd_trans (jg_b a b) h.2.2) (jg_d a b)
theorem jg_min {a b : Sp} : jg a b ∣ min a.lo b.lo - a.lo := by
  rcases Int.le_total a.lo b.lo with h | h
  · rw [Int.min_eq_left h]; simp
  · rw [Int.min_eq_right h]
    have e : b.lo - a.lo = -(a.lo - b.lo) := by omega
    rw [e]; exact Int.dvd_neg.2 (jg_d a b)
theorem jg_mem {a b : Sp} {n : Int} (h : Mem a n ∨ Mem b n) : jg a b ∣ n - min a.lo b.lo := by
  have e : n - min a.lo b.lo = (n - a.lo) - (min a.lo b.lo - a.lo) := by omega
  rw [e]
  exact Int.dvd_sub (h.elim jg_ca jg_cb) jg_min
theorem max_mem {a b : Sp} (ha : Vld a) (hb : Vld b) : Mem a (max a.hi b.hi) ∨ Mem b (max a.hi b.hi) := by
  rcases Int.le_total a.hi b.hi with h | h
  · rw [Int.max_eq_right h]; exact Or.inr (mem_self_hi hb)
  · rw [Int.max_eq_left h]; exact Or.inl (mem_self_hi ha)
theorem min_mem {a b : Sp} (ha : Vld a) (hb : Vld b) : Mem a (min a.lo b.lo) ∨ Mem b (min a.lo b.lo) := by
  rcases Int.le_total a.lo b.lo with h | h
  · rw [Int.min_eq_left h]; exact Or.inl (mem_self_lo ha)
  · rw [Int.min_eq_right h]; exact Or.inr (mem_self_lo hb)
theorem join_vld {a b : Sp} (ha : Vld a) (hb : Vld b) : Vld (joinM a b) := by
  have a1 := ha.lo; have a2 := ha.le; have a3 := ha.hi
  have b1 := hb.lo; have b2 := hb.le; have b3 := hb.hi
  rw [joinM_eq]
  refine made_vld2 (by omega) (by omega) (by omega) (fun h => ?_) (jg_mem (max_mem ha hb))
  have g0 := gcdM_nonneg (gcdM a.st b.st) (a.lo - b.lo)
  have : jg a b ≠ 0 := by
    intro hz
    have c1 := jg_d a b; have c2 := jg_a a b; have c3 := jg_b a b
    rw [hz] at c1 c2 c3
    have d1 := Int.zero_dvd.1 c1; have d2 := Int.zero_dvd.1 c2; have d3 := Int.zero_dvd.1 c3
    have e1 := ha.pos; have e2 := hb.pos
    omega
  have : jg a b = gcdM (gcdM a.st b.st) (a.lo - b.lo) := rfl
  omega
theorem join_left {a b : Sp} (ha : Vld a) (hb : Vld b) : Sub a (joinM a b) := by
  intro n hn
  rw [joinM_eq]
  exact made_mem (by have := hn.1; omega) (by have := hn.2.1; omega) (jg_mem (Or.inl hn))
theorem join_right {a b : Sp} (ha : Vld a) (hb : Vld b) : Sub b (joinM a b) := by
  intro n hn
  rw [joinM_eq]
  exact made_mem (by have := hn.1; omega) (by have := hn.2.1; omega) (jg_mem (Or.inr hn))
theorem join_least {a b r : Sp} (ha : Vld a) (hb : Vld b) (h1 : Sub a r) (h2 : Sub b r) : Sub (joinM a b) r := by
  rw [joinM_eq]
  refine made_sub ((min_mem ha hb).elim (h1 _) (h2 _)) ((max_mem ha hb).elim (h1 _) (h2 _)) (dvd_gcdM (dvd_gcdM (st_dvd ha h1) (st_dvd hb h2)) ?_)
  have := Int.dvd_sub (h1 _ (mem_self_lo ha)).2.2 (h2 _ (mem_self_lo hb)).2.2
  have e : a.lo - r.lo - (b.lo - r.lo) = a.lo - b.lo := by omega
  rwa [e] at this

theorem sub_antisymm {s t : Sp} (hs : Vld s) (ht : Vld t) (h1 : Sub s t) (h2 : Sub t s) : s = t := sp_unique hs ht fun n => ⟨h1 n, h2 n⟩
theorem join_eq {a b r : Sp} (ha : Vld a) (hb : Vld b) (hr : Vld r) (h1 : Sub a r) (h2 : Sub b r) (h3 : ∀ u, Sub a u → Sub b u → Sub r u) : joinM a b = r :=
  sub_antisymm (join_vld ha hb) hr (join_least ha hb h1 h2) (h3 _ (join_left ha hb) (join_right ha hb))
theorem join_comm {a b : Sp} (ha : Vld a) (hb : Vld b) : joinM b a = joinM a b :=
  join_eq hb ha (join_vld ha hb) (join_right ha hb) (join_left ha hb) fun u h1 h2 => join_least ha hb h2 h1
theorem join_idem {a : Sp} (ha : Vld a) : joinM a a = a := join_eq ha ha ha (Sub.refl a) (Sub.refl a) fun u h1 _ => h1
theorem join_assoc {a b c : Sp} (ha : Vld a) (hb : Vld b) (hc : Vld c) : joinM a (joinM b c) = joinM (joinM a b) c := by
  have hj := join_vld ha hb
  have hk := join_vld hb hc
  refine join_eq ha hk (join_vld hj hc) ((join_left ha hb).trans (join_left hj hc)) (join_least hb hc ((join_right ha hb).trans (join_left hj hc)) (join_right hj hc)) fun u h1 h2 => ?_
  exact join_least hj hc (join_least ha hb h1 ((join_left hb hc).trans h2)) ((join_right hb hc).trans h2)
theorem join_absorb {a m : Sp} (ha : Vld a) (hm : Vld m) (h : Sub m a) : joinM a m = a := join_eq ha hm ha (Sub.refl a) h fun u h1 _ => h1

/-- The meet of a span with one that it lies inside of. -/
theorem meet_sub {a j : Sp} (ha : Vld a) (hj : Vld j) (h3 : a.st ≤ 2147483648) (h4 : j.st ≤ 2147483648) (h : Sub a j) : meetM a j = (a, true) :=
  isMeet_unique (meetM_spec ha hj h3 h4) ⟨fun _ => ⟨ha, fun n => ⟨fun hn => ⟨hn, h n hn⟩, fun hn => hn.1⟩⟩, fun h => by cases h⟩
theorem meet_sub' {a m : Sp} (ha : Vld a) (hm : Vld m) (h3 : a.st ≤ 2147483648) (h4 : m.st ≤ 2147483648) (h : Sub m a) : meetM a m = (m, true) :=
  isMeet_unique (meetM_spec ha hm h3 h4) ⟨fun _ => ⟨hm, fun n => ⟨fun hn => ⟨h n hn, hn⟩, fun hn => hn.2⟩⟩, fun h => by cases h⟩
theorem meet_idem {a : Sp} (ha : Vld a) (h3 : a.st ≤ 2147483648) : meetM a a = (a, true) := meet_sub ha ha h3 h3 (Sub.refl a)
theorem meet_comm {a b : Sp} (ha : Vld a) (hb : Vld b) (h3 : a.st ≤ 2147483648) (h4 : b.st ≤ 2147483648) : meetM a b = meetM b a :=
  isMeet_unique (meetM_spec ha hb h3 h4) (meetM_spec hb ha h4 h3).symm

/-- A span is the set of the numbers that P tells, or there is none. -/
def IsSet (P : Int → Prop) (r : Sp × Bool) : Prop := (r.2 = true → Vld r.1 ∧ ∀ n, Mem r.1 n ↔ P n) ∧ (r.2 = false → r.1 = zsp ∧ ∀ n, ¬ P n)
theorem isSet_unique {P : Int → Prop} {r r' : Sp × Bool} (h : IsSet P r) (h' : IsSet P r') : r = r' := by
  obtain ⟨a, x⟩ := r
  obtain ⟨b, y⟩ := r'
  cases x <;> cases y
  · have e1 := (h.2 rfl).1; have e2 := (h'.2 rfl).1
    dsimp only at e1 e2
    rw [e1, e2]
  · obtain ⟨v, e⟩ := h'.1 rfl
    exact absurd ((e _).1 (mem_self_lo v)) ((h.2 rfl).2 _)
  · obtain ⟨v, e⟩ := h.1 rfl
    exact absurd ((e _).1 (mem_self_lo v)) ((h'.2 rfl).2 _)
  · obtain ⟨v, e⟩ := h.1 rfl
    obtain ⟨v', e'⟩ := h'.1 rfl
    rw [show a = b from sp_unique v v' fun n => (e n).trans (e' n).symm]
theorem meet_set {a b : Sp} (ha : Vld a) (hb : Vld b) (h3 : a.st ≤ 2147483648) (h4 : b.st ≤ 2147483648) : IsSet (fun n => Mem a n ∧ Mem b n) (meetM a b) := meetM_spec ha hb h3 h4
/-- The meet of a meet, or none. -/
def meet2 (r : Sp × Bool) (f : Sp → Sp × Bool) : Sp × Bool := if r.2 = true then f r.1 else (zsp, false)
theorem st_le_of_sub {r a : Sp} (hr : Vld r) (ha : Vld a) (h : Sub r a) {B : Int} (hB : a.hi - a.lo ≤ B) : r.st ≤ B := by
  have h1 := hr.stle
  have h2 := (h _ (mem_self_lo hr)).1
  have h3 := (h _ (mem_self_hi hr)).2.1
  omega
theorem meet_assoc {a b c : Sp} (ha : Vld a) (hb : Vld b) (hc : Vld c) (h1 : a.hi - a.lo ≤ 2147483648) (h2 : b.hi - b.lo ≤ 2147483648) (h3 : c.hi - c.lo ≤ 2147483648) :
    meet2 (meetM a b) (fun m => meetM m c) = meet2 (meetM b c) (fun n => meetM a n) := by
  have a1 := ha.stle; have b1 := hb.stle; have c1 := hc.stle
  have M := meet_set ha hb (by omega) (by omega)
  have N := meet_set hb hc (by omega) (by omega)
  refine isSet_unique (P := fun n => Mem a n ∧ Mem b n ∧ Mem c n) ?_ ?_
  · unfold meet2
    split
    · rename_i h
      obtain ⟨v, e⟩ := M.1 h
      have s := st_le_of_sub v ha (fun n hn => ((e n).1 hn).1) h1
      have R := meet_set v hc s (by omega)
      refine ⟨fun h => ⟨(R.1 h).1, fun n => ((R.1 h).2 n).trans ?_⟩, fun h => ⟨(R.2 h).1, fun n hn => (R.2 h).2 n ⟨(e n).2 ⟨hn.1, hn.2.1⟩, hn.2.2⟩⟩⟩
      have e2 := e n; dsimp only at e2 ⊢; rw [e2, and_assoc]
    · rename_i h
      have hf : (meetM a b).2 = false := by simpa using h
      exact ⟨(fun h => by cases h), fun _ => ⟨rfl, fun n hn => (M.2 hf).2 n ⟨hn.1, hn.2.1⟩⟩⟩
  · unfold meet2
    split
    · rename_i h
      obtain ⟨v, e⟩ := N.1 h
      have s := st_le_of_sub v hb (fun n hn => ((e n).1 hn).1) h2
      have R := meet_set ha v (by omega) s
      refine ⟨fun h => ⟨(R.1 h).1, fun n => ((R.1 h).2 n).trans ?_⟩, fun h => ⟨(R.2 h).1, fun n hn => (R.2 h).2 n ⟨hn.1, (e n).2 hn.2⟩⟩⟩
      have e2 := e n; dsimp only at e2 ⊢; rw [e2]
    · rename_i h
      have hf : (meetM b c).2 = false := by simpa using h
      exact ⟨(fun h => by cases h), fun _ => ⟨rfl, fun n hn => (N.2 hf).2 n hn.2⟩⟩

end Go.Proofs.Ytnihhchgnkfcgaa
