/- Sums of costs: laws. -/
import Derived.Test.YtajccjbigcdkbaaDoorMg
import Derived.Test.YtajccjbigcdkbaaDoorMi
set_option linter.unusedSimpArgs false
set_option linter.unusedVariables false
namespace Go.Proofs.YtajccjbigcdkbaaDoor
open Go.ChangeShapes Go.WideShapes Go.ChangeAt Go.RowKit
theorem co_ext {x y : Co} (h1 : x.a = y.a) (h2 : x.b = y.b) (h3 : x.c = y.c) (h4 : x.d = y.d) : x = y := by cases x; cases y; simp_all
abbrev N40 (x : Int) : Prop := 0 ≤ x ∧ x < 1099511627776
structure In40 (x : Co) : Prop where
  ha : N40 x.a
  hb : N40 x.b
  hc : N40 x.c
  hd : N40 x.d
theorem mod40 (x : Int) : N40 (x % 1099511627776) := ⟨Int.emod_nonneg _ (by omega), Int.emod_lt_of_pos _ (by omega)⟩
theorem law_in (x : Co) : In40 (lawM x) := ⟨mod40 _, mod40 _, mod40 _, mod40 _⟩
theorem in40_rng {x : Co} (h : In40 x) : Rng x := ⟨⟨by have := h.ha.1; omega, by have := h.ha.2; omega⟩, ⟨by have := h.hb.1; omega, by have := h.hb.2; omega⟩, ⟨by have := h.hc.1; omega, by have := h.hc.2; omega⟩, ⟨by have := h.hd.1; omega, by have := h.hd.2; omega⟩⟩
theorem in40_plain {x : Co} (h : In40 x) : plainB x = true := by
  have one : ∀ n, N40 n → okN n = true := fun n h => by unfold okN; simp; omega
  unfold plainB
  rw [one _ h.ha, one _ h.hb, one _ h.hc, one _ h.hd]; rfl
theorem wrap_rng (n : Int) : In64 (wrap64 n) := by unfold wrap64; omega
theorem add_rng (x y : Co) : Rng (addM x y) := ⟨wrap_rng _, wrap_rng _, wrap_rng _, wrap_rng _⟩
theorem wrap_id {n : Int} (h : In64 n) : wrap64 n = n := by unfold wrap64; omega
theorem add_comm' (x y : Co) : addM x y = addM y x := by unfold addM; rw [Int.add_comm x.a, Int.add_comm x.b, Int.add_comm x.c, Int.add_comm x.d]
theorem wrap_assoc (x y z : Int) : wrap64 (wrap64 (x + y) + z) = wrap64 (x + wrap64 (y + z)) := by unfold wrap64; omega
theorem add_assoc' (x y z : Co) : addM (addM x y) z = addM x (addM y z) := by unfold addM; simp only [wrap_assoc]
theorem wrap_sub {x y : Int} (h : In64 x) : wrap64 (wrap64 (x + y) - y) = x := by unfold wrap64; omega
theorem sub_add (x y : Co) (h : Rng x) : subM (addM x y) y = x := co_ext (wrap_sub h.ha) (wrap_sub h.hb) (wrap_sub h.hc) (wrap_sub h.hd)
theorem wrap_zero {x : Int} (h : In64 x) : wrap64 (x + 0) = x := by rw [Int.add_zero]; exact wrap_id h
theorem add_zero' (x : Co) (h : Rng x) : addM x zeroM = x := co_ext (wrap_zero h.ha) (wrap_zero h.hb) (wrap_zero h.hc) (wrap_zero h.hd)
theorem zero_rng : Rng zeroM := ⟨by decide, by decide, by decide, by decide⟩
theorem fold_add (l : List Co) : ∀ s : Co, Rng s → l.foldl addM s = addM s (sumM l) := by
  induction l with
  | nil => intro s hs; exact (add_zero' s hs).symm
  | cons c l ih =>
    intro s hs
    have h1 : sumM (c :: l) = addM (addM zeroM c) (sumM l) := ih _ (add_rng _ _)
    rw [List.foldl_cons, ih _ (add_rng _ _), h1, add_assoc', add_assoc', ← add_assoc' s zeroM, add_zero' s hs]
theorem sum_rng (l : List Co) : Rng (sumM l) := by
  induction l with
  | nil => exact zero_rng
  | cons c l ih =>
    have h1 : sumM (c :: l) = addM (addM zeroM c) (sumM l) := fold_add l _ (add_rng _ _)
    rw [h1]; exact add_rng _ _
theorem sum_append (l m : List Co) : sumM (l ++ m) = addM (sumM l) (sumM m) := by
  show (l ++ m).foldl addM zeroM = _
  rw [List.foldl_append]
  exact fold_add m _ (sum_rng l)
theorem add_val {x y : Co} (hx : In40 x) (hy : In40 y) : addM x y = ⟨x.a + y.a, x.b + y.b, x.c + y.c, x.d + y.d⟩ := by
  have w : ∀ {m n : Int}, N40 m → N40 n → wrap64 (m + n) = m + n := fun h k => wrap_id ⟨by omega, by omega⟩
  unfold addM
  rw [w hx.ha hy.ha, w hx.hb hy.hb, w hx.hc hy.hc, w hx.hd hy.hd]
theorem at_refl (x : Co) : atM x x = true := by unfold atM; simp
theorem at_add {x y : Co} (hx : In40 x) (hy : In40 y) : atM x (addM x y) = true := by
  rw [add_val hx hy]; unfold atM
  have h1 := hy.ha.1; have h2 := hy.hb.1; have h3 := hy.hc.1; have h4 := hy.hd.1
  simp; omega
theorem at_iff (x y : Co) : atM x y = true ↔ x.a ≤ y.a ∧ x.b ≤ y.b ∧ x.c ≤ y.c ∧ x.d ≤ y.d := by unfold atM; simp [and_assoc]
theorem at_anti {x y : Co} (h : atM x y = true) (k : atM y x = true) : x = y := by
  obtain ⟨h1, h2, h3, h4⟩ := (at_iff x y).1 h
  obtain ⟨k1, k2, k3, k4⟩ := (at_iff y x).1 k
  exact co_ext (by omega) (by omega) (by omega) (by omega)
theorem at_trans {x y z : Co} (h : atM x y = true) (k : atM y z = true) : atM x z = true := by
  obtain ⟨h1, h2, h3, h4⟩ := (at_iff x y).1 h
  obtain ⟨k1, k2, k3, k4⟩ := (at_iff y z).1 k
  exact (at_iff x z).2 ⟨by omega, by omega, by omega, by omega⟩
theorem at_mono {x y z : Co} (hx : In40 x) (hy : In40 y) (hz : In40 z) : atM (addM x z) (addM y z) = atM x y := by
  rw [add_val hx hz, add_val hy hz, Bool.eq_iff_iff, at_iff, at_iff]
  dsimp only
  constructor <;> (rintro ⟨h1, h2, h3, h4⟩; exact ⟨by omega, by omega, by omega, by omega⟩)
theorem add_to {x y z : Co} (h : addM x y = z) (w : World) : Calls Tryd.prog 8 #[cov x, cov y] w fun e w' => e = .returned (cov z) ∧ Below w.heap.size w w' := by rw [← h]; exact add_any x y w
theorem sub_to {x y z : Co} (h : subM x y = z) (w : World) : Calls Tryd.prog 9 #[cov x, cov y] w fun e w' => e = .returned (cov z) ∧ Below w.heap.size w w' := by rw [← h]; exact sub_any x y w
theorem at_to {x y : Co} {z : Bool} (h : atM x y = z) (w : World) : Calls Tryd.prog 11 #[cov x, cov y] w fun e w' => e = .returned (.bool z) ∧ Below w.heap.size w w' := by rw [← h]; exact atmost_any x y w
end Go.Proofs.YtajccjbigcdkbaaDoor
