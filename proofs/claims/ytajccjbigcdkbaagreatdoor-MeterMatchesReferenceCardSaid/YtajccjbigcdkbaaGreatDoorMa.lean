/- Costs: the walks of what makes them. -/
import Derived.Test.YtajccjbigcdkbaaGreatDoorShelf
import Derived.Test.YtajccjbigcdkbaaGreatDoorMildb
import Derived.Test.YtajccjbigcdkbaaGreatDoorCls
import Derived.Test.YtajccjbigcdkbaaGreatDoorNav
import Derived.WalkKit
import Derived.ProofKit
import Derived.OpenShut
import Derived.Outline
import Derived.Handy
import Derived.Lib.Hide
import Derived.WalkLawsBesides
import Derived.WalkSpells
import Derived.BigQuiet
import Derived.Deep.QuietTactic
import Derived.Lib.SmallJoins
set_option linter.unusedSimpArgs false
set_option linter.unusedVariables false
namespace Go.Proofs.YtajccjbigcdkbaaGreatDoor
open Go.ChangeShapes Go.WideShapes Go.ChangeAt Go.RowKit

abbrev iv (n : Int) : Value := .int .i64 n
/-- Four numbers. -/
structure Co where
  a : Int
  b : Int
  c : Int
  d : Int
  deriving DecidableEq
abbrev cov (c : Co) : Value := .agg #[.int .i64 c.a, .int .i64 c.b, .int .i64 c.c, .int .i64 c.d]
abbrev pt (b o : Nat) : Value := .pointer (some ⟨b, o, none⟩)
abbrev ptsv (b : Nat) : Value := .agg #[pt b 0, pt b 1, pt b 2, pt b 3]

theorem bcell {W w1 : World} (hb : Below W.heap.size W w1) : (∀ b o, b < W.heap.size → w1.cell? ⟨b, o, none⟩ = W.cell? ⟨b, o, none⟩) ∧ (∀ b o, b < W.heap.size → w1.frozen? ⟨b, o, none⟩ = W.frozen? ⟨b, o, none⟩) :=
  ⟨fun b o h => hb.cell (p := ⟨b, o, none⟩) h, fun b o h => hb.frozen (p := ⟨b, o, none⟩) h⟩
theorem bup {B : Nat} {w w1 w' : World} (h : Below B w w1) (hb : Below w1.heap.size w1 w') (hB : B ≤ w1.heap.size) : Below B w w' := h.trans (hb.mono hB)
theorem bdn {B : Nat} {a w : World} (h : Below B a w) (n : Nat) : Below B a (w.drewN n) := ⟨h.os, h.tape, h.output, h.size, h.block⟩
theorem ret_bool {a b : Bool} (h : a = b) : Ending.returned (.bool a) = .returned (.bool b) := by rw [h]

theorem add1_any (x y : Int) (w : World) : Calls Tryz.prog 23 #[.int .i64 x, .int .i64 y] w fun e w' => e = .returned (.int .i64 (wrap64 (x + y))) ∧ w = w' := by
  go_enter Tryz.func23, Tryz.ntmps23
  go_wp2
  go_ret
  exact ⟨rfl, rfl⟩

theorem sub1_any (x y : Int) (w : World) : Calls Tryz.prog 24 #[.int .i64 x, .int .i64 y] w fun e w' => e = .returned (.int .i64 (wrap64 (x - y))) ∧ w = w' := by
  go_enter Tryz.func24, Tryz.ntmps24
  go_wp2
  go_ret
  exact ⟨rfl, rfl⟩

theorem of_any (a b c d : Int) (w : World) : Calls Tryz.prog 21 #[.agg #[.int .i64 a, .int .i64 b, .int .i64 c, .int .i64 d]] w fun e w' => e = .returned (cov ⟨a, b, c, d⟩) ∧ Below w.heap.size w w' := by
  go_enter Tryz.func21, Tryz.ntmps21
  go_wp2
  exact bodyPost_ret (v := cov ⟨a, b, c, d⟩) (by simp [results, Tryz.results21, go_sem, *]) rfl ⟨rfl, by (repeat' (first | (with_reducible exact Below.refl _ _) | (with_reducible assumption) | (with_reducible refine Below.alloc ?_ ?_ _) | (with_reducible refine Below.drew ?_) | (with_reducible refine bdn ?_ _) | (with_reducible refine Below.setCell ?_ ?_ _) | go_size))⟩

theorem parts_any (b : Nat) (w : World) : Calls Tryz.prog 25 #[.pointer (some ⟨b, 0, none⟩)] w fun e w' => e = .returned (ptsv b) ∧ Below w.heap.size w w' := by
  go_enter Tryz.func25, Tryz.ntmps25
  go_wp2
  refine Mild.region_mild 13 [] (Mild.Bks w.heap.size w [(w.heap.size, .cells #[.pointer none, .pointer none, .pointer none, .pointer none] 46)]) (by kernel_rfl) 16 (by kernel_rfl) rfl (by simp) Mild.Bks.closed ?h0 (by simp) ?H
  case h0 => exact ⟨by (repeat' (first | (with_reducible exact Below.refl _ _) | (with_reducible assumption) | (with_reducible refine Below.alloc ?_ ?_ _) | (with_reducible refine Below.drew ?_) | (with_reducible refine bdn ?_ _) | (with_reducible refine Below.setCell ?_ ?_ _) | go_size)), by go_size, by simp only [List.forall_mem_cons, List.not_mem_nil, false_imp_iff, implies_true, and_true]; exact Mild.alloc_at _ _⟩
  apply Exists.intro
  refine ⟨?HW, ?HT⟩
  case HW =>
    intro W hW
    simp only [List.take_succ_cons, List.take_zero]
    iterate 13 (apply Mild.walkM_q rfl; go_wp2; refine ⟨rfl, rfl, Below.refl _ _, ?_⟩)
    exact Mild.walkM_end rfl
  case HT =>
    intro F w2 hC _ _
    simp only [List.drop_succ_cons, List.drop_zero, Mild.putAll, List.foldl_cons, List.foldl_nil, Mild.ptrTo, Act.put, List.setIfInBounds_toArray, List.set_cons_zero, List.set_cons_succ]
    have hR := hC.blocks
    simp only [List.forall_mem_cons, List.not_mem_nil, false_imp_iff, implies_true, and_true] at hR
    have cR := Mild.cell_of_block hR
    have fR := Mild.free_of_block hR
    have hB := hC.below
    have hz := hC.big
    go_wp2
    exact bodyPost_ret (v := ptsv b) (by simp [results, Tryz.results25, go_sem, *]) rfl ⟨rfl, by (repeat' (first | (with_reducible exact Below.refl _ _) | (with_reducible assumption) | (with_reducible refine Below.alloc ?_ ?_ _) | (with_reducible refine Below.drew ?_) | (with_reducible refine bdn ?_ _) | (with_reducible refine Below.setCell ?_ ?_ _) | go_size))⟩
end Go.Proofs.YtajccjbigcdkbaaGreatDoor
-- USEBDN
