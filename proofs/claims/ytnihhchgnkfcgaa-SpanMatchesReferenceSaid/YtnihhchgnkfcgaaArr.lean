/- How an array of two or three integers, given by value, is opened and shut as the reader reads it. -/
import Derived.Test.YtnihhchgnkfcgaaRaw
set_option linter.unusedSimpArgs false
set_option linter.unusedVariables false
namespace Go.Proofs.Ytnihhchgnkfcgaa
open Go.ChangeShapes Go.WideShapes Go.ChangeAt Go.RowKit
section
variable {H : Type} {enc : TypeId × Value → H} {P : Program} {w : World} {base : Nat} {spare : Nat → Bool} {held : Bool}
theorem okWide_arr {n : Nat} {t e : TypeId} {r : Reach} {b0 : Nat} {v : Value} (ht : P.underlying t = some (.array n e)) (h : Value.okWide P w r b0 t v) : ∃ cs, v = .agg cs ∧ cs.size = P.cellsOf t := by
  simp only [Value.okWide, ht] at h
  obtain ⟨cs, h1, h2, _⟩ := h
  exact ⟨cs, h1, h2⟩
theorem open_arr2 {t e : TypeId} {k : IntKind} {r : Reach} {b0 : Nat} {v : Value} {d : DataW H} {p : List MemPlace} (ht : P.underlying t = some (.array 2 e)) (he : P.underlying e = some (.int k)) (hC : P.cellsOf t = 2) (hc : P.cellsOf e = 1)
    (hv : Value.okWide P w r b0 t v) (h : DataW.Trod enc P w base spare held t v d p) :
    ∃ a b, v = .agg #[.int k a, .int k b] ∧ d = .agg [.lit (.int k a), .lit (.int k b)] ∧ p = [] ∧ (Lit.int k a).wf = true ∧ (Lit.int k b).wf = true := by
  obtain ⟨cs, rfl, hsz⟩ := okWide_arr ht hv
  obtain ⟨c0, c1, rfl⟩ := Joins.array2 (hsz.trans hC)
  obtain ⟨fuel, hf⟩ := h
  obtain ⟨xs, m, rfl, hx, _, hl, hi⟩ := DataW.trod_array ht hf
  match xs, hl with
  | [y0, y1], _ =>
    have h0 := hi 0 (by omega)
    have h1 := hi 1 (by omega)
    simp [Value.cells, hc] at h0 h1
    obtain ⟨a, e0, rfl, wa⟩ := DataW.trod_int he h0
    obtain ⟨b, e1, rfl, wb⟩ := DataW.trod_int he h1
    simp only [List.cons.injEq, and_true] at e0 e1
    subst e0; subst e1
    simp at hx
    exact ⟨a, b, rfl, hx.1, hx.2, wa, wb⟩
theorem open_arr3 {t e : TypeId} {k : IntKind} {r : Reach} {b0 : Nat} {v : Value} {d : DataW H} {p : List MemPlace} (ht : P.underlying t = some (.array 3 e)) (he : P.underlying e = some (.int k)) (hC : P.cellsOf t = 3) (hc : P.cellsOf e = 1)
    (hv : Value.okWide P w r b0 t v) (h : DataW.Trod enc P w base spare held t v d p) :
    ∃ a b c, v = .agg #[.int k a, .int k b, .int k c] ∧ d = .agg [.lit (.int k a), .lit (.int k b), .lit (.int k c)] ∧ p = [] ∧ (Lit.int k a).wf = true ∧ (Lit.int k b).wf = true ∧ (Lit.int k c).wf = true := by
  obtain ⟨cs, rfl, hsz⟩ := okWide_arr ht hv
  obtain ⟨c0, c1, c2, rfl⟩ := Joins.array3 (hsz.trans hC)
  obtain ⟨fuel, hf⟩ := h
  obtain ⟨xs, m, rfl, hx, _, hl, hi⟩ := DataW.trod_array ht hf
  match xs, hl with
  | [y0, y1, y2], _ =>
    have h0 := hi 0 (by omega)
    have h1 := hi 1 (by omega)
    have h2 := hi 2 (by omega)
    simp [Value.cells, hc] at h0 h1 h2
    obtain ⟨a, e0, rfl, wa⟩ := DataW.trod_int he h0
    obtain ⟨b, e1, rfl, wb⟩ := DataW.trod_int he h1
    obtain ⟨c, e2, rfl, wc⟩ := DataW.trod_int he h2
    simp only [List.cons.injEq, and_true] at e0 e1 e2
    subst e0; subst e1; subst e2
    simp at hx
    exact ⟨a, b, c, rfl, hx.1, hx.2, wa, wb, wc⟩
theorem shut_arr2 {t e : TypeId} {k : IntKind} {a b : Int} (ht : P.underlying t = some (.array 2 e)) (he : P.underlying e = some (.int k)) (hC : P.cellsOf t = 2) (hc : P.cellsOf e = 1) (wa : (Lit.int k a).wf = true) (wb : (Lit.int k b).wf = true) :
    DataW.Trod enc P w base spare held t (.agg #[.int k a, .int k b]) (.agg [.lit (.int k a), .lit (.int k b)]) [] := by
  have r2 : List.range 2 = [0, 1] := rfl
  exact ⟨2, by simp [DataW.trod, Value.cells, ht, he, hC, hc, wa, wb, r2]⟩
theorem shut_arr3 {t e : TypeId} {k : IntKind} {a b c : Int} (ht : P.underlying t = some (.array 3 e)) (he : P.underlying e = some (.int k)) (hC : P.cellsOf t = 3) (hc : P.cellsOf e = 1) (wa : (Lit.int k a).wf = true) (wb : (Lit.int k b).wf = true) (wc : (Lit.int k c).wf = true) :
    DataW.Trod enc P w base spare held t (.agg #[.int k a, .int k b, .int k c]) (.agg [.lit (.int k a), .lit (.int k b), .lit (.int k c)]) [] := by
  have r3 : List.range 3 = [0, 1, 2] := rfl
  exact ⟨2, by simp [DataW.trod, Value.cells, ht, he, hC, hc, wa, wb, wc, r3]⟩
end
end Go.Proofs.Ytnihhchgnkfcgaa
