/- Costs: sums, differences, comparisons. -/
import Derived.Test.YtajccjbigcdkbaaGreatDoorMb
-- USEBDN
set_option linter.unusedSimpArgs false
set_option linter.unusedVariables false
namespace Go.Proofs.YtajccjbigcdkbaaGreatDoor
open Go.ChangeShapes Go.WideShapes Go.ChangeAt Go.RowKit
def addM (x y : Co) : Co := ⟨wrap64 (x.a + y.a), wrap64 (x.b + y.b), wrap64 (x.c + y.c), wrap64 (x.d + y.d)⟩
def subM (x y : Co) : Co := ⟨wrap64 (x.a - y.a), wrap64 (x.b - y.b), wrap64 (x.c - y.c), wrap64 (x.d - y.d)⟩
def atM (x y : Co) : Bool := decide (x.a ≤ y.a) && decide (x.b ≤ y.b) && decide (x.c ≤ y.c) && decide (x.d ≤ y.d)

theorem each_add (x y : Co) (w : World) : Calls Tryz.prog 22 #[cov x, cov y, .func (.func 23) #[] #[]] w fun e w' => e = .returned (cov (addM x y)) ∧ Below w.heap.size w w' :=
  each_any 23 (fun x y => wrap64 (x + y)) add1_any (enters_of Tryz.func23 (by kernel_rfl) rfl) x y w
theorem each_sub (x y : Co) (w : World) : Calls Tryz.prog 22 #[cov x, cov y, .func (.func 24) #[] #[]] w fun e w' => e = .returned (cov (subM x y)) ∧ Below w.heap.size w w' :=
  each_any 24 (fun x y => wrap64 (x - y)) sub1_any (enters_of Tryz.func24 (by kernel_rfl) rfl) x y w

theorem add_any (x y : Co) (w : World) : Calls Tryz.prog 7 #[cov x, cov y] w fun e w' => e = .returned (cov (addM x y)) ∧ Below w.heap.size w w' := by
  go_enter Tryz.func7, Tryz.ntmps7
  go_wp2_with (go_at_call 22; refine (each_add x y _).mono ?_; rintro e w1 ⟨rfl, hb⟩; obtain ⟨hc, hf⟩ := bcell hb; have hz := hb.size; (try simp at hz); have z0 : w.heap.size < w1.heap.size := (by omega); have c0 := fun o => hc (w.heap.size) o (by go_size); have f0 := fun o => hf (w.heap.size) o (by go_size); have z1 : w.heap.size + 1 < w1.heap.size := (by omega); have c1 := fun o => hc (w.heap.size + 1) o (by go_size); have f1 := fun o => hf (w.heap.size + 1) o (by go_size); have z2 : w.heap.size + 2 < w1.heap.size := (by omega); have c2 := fun o => hc (w.heap.size + 2) o (by go_size); have f2 := fun o => hf (w.heap.size + 2) o (by go_size); clear hc hf; have hB := bup (B := w.heap.size) (w := w) (by (repeat' (first | (with_reducible exact Below.refl _ _) | (with_reducible assumption) | (with_reducible refine Below.alloc ?_ ?_ _) | (with_reducible refine Below.drew ?_) | (with_reducible refine bdn ?_ _) | (with_reducible refine Below.setCell ?_ ?_ _) | go_size))) hb (by go_size); clear hb)
  exact bodyPost_ret (v := cov (addM x y)) (by simp [results, Tryz.results7, go_sem, *]) rfl ⟨rfl, by (repeat' (first | (with_reducible exact Below.refl _ _) | (with_reducible assumption) | (with_reducible refine Below.alloc ?_ ?_ _) | (with_reducible refine Below.drew ?_) | (with_reducible refine bdn ?_ _) | (with_reducible refine Below.setCell ?_ ?_ _) | go_size))⟩
theorem sub_any (x y : Co) (w : World) : Calls Tryz.prog 9 #[cov x, cov y] w fun e w' => e = .returned (cov (subM x y)) ∧ Below w.heap.size w w' := by
  go_enter Tryz.func9, Tryz.ntmps9
  go_wp2_with (go_at_call 22; refine (each_sub x y _).mono ?_; rintro e w1 ⟨rfl, hb⟩; obtain ⟨hc, hf⟩ := bcell hb; have hz := hb.size; (try simp at hz); have z0 : w.heap.size < w1.heap.size := (by omega); have c0 := fun o => hc (w.heap.size) o (by go_size); have f0 := fun o => hf (w.heap.size) o (by go_size); have z1 : w.heap.size + 1 < w1.heap.size := (by omega); have c1 := fun o => hc (w.heap.size + 1) o (by go_size); have f1 := fun o => hf (w.heap.size + 1) o (by go_size); have z2 : w.heap.size + 2 < w1.heap.size := (by omega); have c2 := fun o => hc (w.heap.size + 2) o (by go_size); have f2 := fun o => hf (w.heap.size + 2) o (by go_size); clear hc hf; have hB := bup (B := w.heap.size) (w := w) (by (repeat' (first | (with_reducible exact Below.refl _ _) | (with_reducible assumption) | (with_reducible refine Below.alloc ?_ ?_ _) | (with_reducible refine Below.drew ?_) | (with_reducible refine bdn ?_ _) | (with_reducible refine Below.setCell ?_ ?_ _) | go_size))) hb (by go_size); clear hb)
  exact bodyPost_ret (v := cov (subM x y)) (by simp [results, Tryz.results9, go_sem, *]) rfl ⟨rfl, by (repeat' (first | (with_reducible exact Below.refl _ _) | (with_reducible assumption) | (with_reducible refine Below.alloc ?_ ?_ _) | (with_reducible refine Below.drew ?_) | (with_reducible refine bdn ?_ _) | (with_reducible refine Below.setCell ?_ ?_ _) | go_size))⟩

theorem at_cases (x y : Co) : (¬ x.a ≤ y.a ∧ atM x y = false) ∨ (x.a ≤ y.a ∧ ¬ x.b ≤ y.b ∧ atM x y = false) ∨ (x.a ≤ y.a ∧ x.b ≤ y.b ∧ ¬ x.c ≤ y.c ∧ atM x y = false) ∨ (x.a ≤ y.a ∧ x.b ≤ y.b ∧ x.c ≤ y.c ∧ ¬ x.d ≤ y.d ∧ atM x y = false) ∨ (x.a ≤ y.a ∧ x.b ≤ y.b ∧ x.c ≤ y.c ∧ x.d ≤ y.d ∧ atM x y = true) := by
  unfold atM
  by_cases h1 : x.a ≤ y.a <;> by_cases h2 : x.b ≤ y.b <;> by_cases h3 : x.c ≤ y.c <;> by_cases h4 : x.d ≤ y.d <;> simp [h1, h2, h3, h4]
end Go.Proofs.YtajccjbigcdkbaaGreatDoor
