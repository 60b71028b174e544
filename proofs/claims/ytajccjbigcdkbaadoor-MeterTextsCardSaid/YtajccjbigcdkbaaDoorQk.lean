/- MeterSums: the sum of a list is that of its parts. -/
import Derived.Test.YtajccjbigcdkbaaDoorQb
import Derived.Test.YtajccjbigcdkbaaDoorQc
-- USEBDN
set_option linter.unusedSimpArgs false
set_option linter.unusedVariables false
namespace Go.Proofs.YtajccjbigcdkbaaDoor
open Go.ChangeShapes Go.WideShapes Go.ChangeAt Go.RowKit
abbrev lc (a b c : Co) : Array Value := #[.int .i64 a.a, .int .i64 a.b, .int .i64 a.c, .int .i64 a.d, .int .i64 b.a, .int .i64 b.b, .int .i64 b.c, .int .i64 b.d, .int .i64 c.a, .int .i64 c.b, .int .i64 c.c, .int .i64 c.d, .int .i64 a.a, .int .i64 a.b, .int .i64 a.c, .int .i64 a.d]
theorem row_l {W : World} {L : Nat} {a b c : Co} (h : W.heap[L]? = some (.cells (lc a b c) 26)) (i : Nat) (m : List Co) (hm : ∀ (j : Nat) x, m[j]? = some x → [a, b, c, a][i + j]? = some x) : Row4 W L (i * 4) m := by
  intro j hj
  have hx := hm j m[j] (List.getElem?_eq_getElem hj)
  have cc := Mild.cell_of_block h
  generalize m[j] = x at hx ⊢
  rw [show i * 4 + j * 4 = (i + j) * 4 by omega]
  generalize i + j = q at hx ⊢
  match q, hx with
  | 0, hx => cases hx; exact ⟨cc 0, cc 1, cc 2, cc 3⟩
  | 1, hx => cases hx; exact ⟨cc 4, cc 5, cc 6, cc 7⟩
  | 2, hx => cases hx; exact ⟨cc 8, cc 9, cc 10, cc 11⟩
  | 3, hx => cases hx; exact ⟨cc 12, cc 13, cc 14, cc 15⟩
  | q + 4, hx => simp at hx
theorem sum_to {W : World} {L : Nat} {a b c : Co} (h : W.heap[L]? = some (.cells (lc a b c) 26)) (i cap : Nat) (m : List Co) (hl : m.length ≤ 4) (hm : ∀ (j : Nat) x, m[j]? = some x → [a, b, c, a][i + j]? = some x) {T : Co} (hT : sumM m = T) (off n : Nat) (ho : off = i * 4) (hn : n = m.length) :
    Calls Tryd.prog 10 #[.slice (some ⟨L, off, none⟩) n cap] W fun e w' => e = .returned (cov T) ∧ Below W.heap.size W w' := by
  subst ho hn
  rw [← hT]; exact sum_any L (i * 4) cap m W (Mild.lt_of_block h) (by omega) (row_l h i m hm)
theorem seg_none {l : List Co} {i : Nat} : ∀ (j : Nat) x, ([] : List Co)[j]? = some x → l[i + j]? = some x := fun j x h => by simp at h
theorem seg_all {l : List Co} : ∀ (j : Nat) x, l[j]? = some x → l[0 + j]? = some x := fun j x h => by rw [Nat.zero_add]; exact h
theorem nil_to (W : World) : Calls Tryd.prog 10 #[.slice none 0 0] W fun e w' => e = .returned (.agg #[.int .i64 0, .int .i64 0, .int .i64 0, .int .i64 0]) ∧ Below W.heap.size W w' := sum_nil W
theorem seg_take {l : List Co} (k : Nat) : ∀ (j : Nat) x, (l.take k)[j]? = some x → l[0 + j]? = some x := fun j x h => by
  rw [Nat.zero_add]
  by_cases hj : j < k
  · rwa [List.getElem?_take_of_lt hj] at h
  · rw [List.getElem?_eq_none (by simp; omega)] at h; cases h
theorem seg_drop {l : List Co} (k : Nat) : ∀ (j : Nat) x, (l.drop k)[j]? = some x → l[k + j]? = some x := fun j x h => by rwa [List.getElem?_drop] at h
end Go.Proofs.YtajccjbigcdkbaaDoor
