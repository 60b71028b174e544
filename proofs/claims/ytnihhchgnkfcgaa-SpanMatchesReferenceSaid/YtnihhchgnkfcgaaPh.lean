/- Plain mathematics of spans: a picked element, a span moved, remainders of spans that meet (the statement SpanGreat). -/
import Derived.Test.YtnihhchgnkfcgaaPg
set_option linter.unusedSimpArgs false
set_option linter.unusedVariables false
namespace Go.Proofs.Ytnihhchgnkfcgaa

theorem pick_mem {s : Sp} (hs : Vld s) (i : Int) : Mem s (pickM s i) := by
  obtain ⟨a, b, c, d⟩ := pick_bd i hs.st0 hs.le
  unfold pickM
  refine ⟨by omega, by omega, ⟨i % sizeM s, by omega⟩⟩
theorem mem_moved {t : Sp} {y d : Int} (h : Mem t y) : Mem ⟨t.lo + d, t.hi + d, t.st⟩ (y + d) := by
  obtain ⟨a, b, c⟩ := h
  refine ⟨by dsimp only; omega, by dsimp only; omega, ?_⟩
  dsimp only
  have e : y + d - (t.lo + d) = y - t.lo := by omega
  rw [e]; exact c
theorem great_meet {s m : Sp} {x : Int} (hs : Vld s) (hm : Vld m) (h1 : s.st ≤ 2147483648) (h2 : m.st ≤ 2147483648) (hx : Mem s x) (hy : Mem m x) :
    (meetM s m).2 = true ∧ hasB (meetM s m).1 x = true ∧ insideB (meetM s m).1 s = true ∧ insideB (meetM s m).1 m = true ∧ Vld (meetM s m).1 := by
  have H := meet_set hs hm h1 h2
  cases hb : (meetM s m).2
  · exact absurd ⟨hx, hy⟩ ((H.2 hb).2 x)
  · obtain ⟨v, e⟩ := H.1 hb
    exact ⟨rfl, (hasB_iff _ _).2 ((e x).2 ⟨hx, hy⟩), (inside_iff v _).2 fun n hn => ((e n).1 hn).1, (inside_iff v _).2 fun n hn => ((e n).1 hn).2, v⟩
theorem gcdM_eq {a g : Int} (h0 : 0 ≤ g) (h : g ∣ a) : gcdM a g = g :=
  Int.dvd_antisymm (gcdM_nonneg _ _) h0 (gcdM_dvd_right _ _) (dvd_gcdM h (Int.dvd_refl _))
theorem great_mod {s t : Sp} (hs : Vld s) (ht : Vld t) (h1 : s.st ≤ 2147483648) (h2 : t.st ≤ 2147483648) (h : (meetM s t).2 = true) :
    modM s (gcdM s.st t.st) = modM t (gcdM s.st t.st) := by
  obtain ⟨v, e⟩ := (meet_set hs ht h1 h2).1 h
  obtain ⟨a, b⟩ := (e _).1 (mem_self_lo v)
  have g0 := gcdM_nonneg s.st t.st
  have d1 := gcdM_dvd_left s.st t.st
  have d2 := gcdM_dvd_right s.st t.st
  have e1 := Int.dvd_trans d1 a.2.2
  have e2 := Int.dvd_trans d2 b.2.2
  generalize gcdM s.st t.st = g at *
  unfold modM
  rw [gcdM_eq g0 d1, gcdM_eq g0 d2]
  have e3 : g ∣ s.lo - t.lo := by
    have := Int.dvd_sub e2 e1
    have e4 : (meetM s t).1.lo - t.lo - ((meetM s t).1.lo - s.lo) = s.lo - t.lo := by omega
    rwa [e4] at this
  have e5 : s.lo % g = t.lo % g := Int.emod_eq_emod_iff_emod_sub_eq_zero.2 (Int.emod_eq_zero_of_dvd e3)
  rw [e5]
end Go.Proofs.Ytnihhchgnkfcgaa
