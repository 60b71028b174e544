/- The test whether a cost is plain; words. -/
import Derived.Test.YtajccjbigcdkbaaGreatDoorMe
-- USEBDN
set_option linter.unusedSimpArgs false
set_option linter.unusedVariables false
namespace Go.Proofs.YtajccjbigcdkbaaGreatDoor
open Go.ChangeShapes Go.WideShapes Go.ChangeAt Go.RowKit
theorem words_any (w : World) : Calls Tryz.prog 26 #[] w fun e w' => e = .returned (.agg #[.string ⟨#[105, 115, 115, 117, 101, 115]⟩, .string ⟨#[115, 99, 97, 108, 97, 114, 115]⟩, .string ⟨#[109, 111, 118, 101, 115]⟩, .string ⟨#[109, 97, 115, 107, 101, 100]⟩]) ∧ Below w.heap.size w w' := by
  go_enter Tryz.func26, Tryz.ntmps26
  go_wp2
  exact bodyPost_ret (v := .agg #[.string ⟨#[105, 115, 115, 117, 101, 115]⟩, .string ⟨#[115, 99, 97, 108, 97, 114, 115]⟩, .string ⟨#[109, 111, 118, 101, 115]⟩, .string ⟨#[109, 97, 115, 107, 101, 100]⟩]) (by simp [results, Tryz.results26, go_sem, *]) rfl ⟨rfl, by (repeat' (first | (with_reducible exact Below.refl _ _) | (with_reducible assumption) | (with_reducible refine Below.alloc ?_ ?_ _) | (with_reducible refine Below.drew ?_) | (with_reducible refine bdn ?_ _) | (with_reducible refine Below.setCell ?_ ?_ _) | go_size))⟩
def okN (x : Int) : Bool := decide (0 ≤ x) && decide (x ≤ 1099511627776)
def plainB (x : Co) : Bool := okN x.a && okN x.b && okN x.c && okN x.d
theorem okN_cases (x : Int) : (x < 0 ∧ okN x = false) ∨ (0 ≤ x ∧ ¬ x ≤ 1099511627776 ∧ okN x = false) ∨ (0 ≤ x ∧ x ≤ 1099511627776 ∧ okN x = true) := by
  unfold okN
  by_cases h1 : 0 ≤ x <;> by_cases h2 : x ≤ 1099511627776 <;> simp [h1, h2] <;> omega

set_option maxRecDepth 20000 in
set_option maxHeartbeats 2000000 in
theorem plain_any (x : Co) (w : World) : Calls Tryz.prog 45 #[cov x] w fun e w' => e = .returned (.bool (plainB x)) ∧ Below w.heap.size w w' := by
  have i0 := ixp0
  have i1 := ixp1
  have i2 := ixp2
  have i3 := ixp3
  go_enter Tryz.func45, Tryz.ntmps45
  go_wp2_with (go_at_call 25; refine (parts_any _ _).mono ?_; rintro e w1 ⟨rfl, hb⟩)
  have hz := hb.size
  simp only [World.size_alloc] at hz
  have hB1 : Below w.heap.size w w1 := bup (w := w) (by (repeat' (first | (with_reducible exact Below.refl _ _) | (with_reducible assumption) | (with_reducible refine Below.alloc ?_ ?_ _) | (with_reducible refine Below.drew ?_) | (with_reducible refine bdn ?_ _) | (with_reducible refine Below.setCell ?_ ?_ _) | go_size))) hb (by go_size)
  have bA : w1.heap[w.heap.size]? = some (.cells (coc x) 23) := by
    rw [hb.block _ (by go_size)]; exact Mild.alloc_at _ _
  have cA := Mild.cell_of_block bA
  clear bA hb hz
  refine wp_loop_rounds 5 ?_
  rw [rounds_succ]
  rcases okN_cases x.a with ⟨g0, e0⟩ | ⟨g0, k0, e0⟩ | ⟨g0, k0, e0⟩
  · have hD := Lib.hid (show plainB x = false by simp [plainB, *]); clear e0
    go_wp2
    go_ret
    exact ⟨ret_bool hD.out.symm, by (repeat' (first | (with_reducible exact Below.refl _ _) | (with_reducible assumption) | (with_reducible refine Below.alloc ?_ ?_ _) | (with_reducible refine Below.drew ?_) | (with_reducible refine bdn ?_ _) | (with_reducible refine Below.setCell ?_ ?_ _) | go_size))⟩
  · have hD := Lib.hid (show plainB x = false by simp [plainB, *]); clear e0
    go_wp2
    go_ret
    exact ⟨ret_bool hD.out.symm, by (repeat' (first | (with_reducible exact Below.refl _ _) | (with_reducible assumption) | (with_reducible refine Below.alloc ?_ ?_ _) | (with_reducible refine Below.drew ?_) | (with_reducible refine bdn ?_ _) | (with_reducible refine Below.setCell ?_ ?_ _) | go_size))⟩
  · have hH0 := Lib.hid e0; clear e0
    go_wp2
    rw [rounds_succ]
    rcases okN_cases x.b with ⟨g1, e1⟩ | ⟨g1, k1, e1⟩ | ⟨g1, k1, e1⟩
    · have hD := Lib.hid (show plainB x = false by simp [plainB, *]); clear e1
      go_wp2
      go_ret
      exact ⟨ret_bool hD.out.symm, by (repeat' (first | (with_reducible exact Below.refl _ _) | (with_reducible assumption) | (with_reducible refine Below.alloc ?_ ?_ _) | (with_reducible refine Below.drew ?_) | (with_reducible refine bdn ?_ _) | (with_reducible refine Below.setCell ?_ ?_ _) | go_size))⟩
    · have hD := Lib.hid (show plainB x = false by simp [plainB, *]); clear e1
      go_wp2
      go_ret
      exact ⟨ret_bool hD.out.symm, by (repeat' (first | (with_reducible exact Below.refl _ _) | (with_reducible assumption) | (with_reducible refine Below.alloc ?_ ?_ _) | (with_reducible refine Below.drew ?_) | (with_reducible refine bdn ?_ _) | (with_reducible refine Below.setCell ?_ ?_ _) | go_size))⟩
    · have hH1 := Lib.hid e1; clear e1
      go_wp2
      rw [rounds_succ]
      rcases okN_cases x.c with ⟨g2, e2⟩ | ⟨g2, k2, e2⟩ | ⟨g2, k2, e2⟩
      · have hD := Lib.hid (show plainB x = false by simp [plainB, *]); clear e2
        go_wp2
        go_ret
        exact ⟨ret_bool hD.out.symm, by (repeat' (first | (with_reducible exact Below.refl _ _) | (with_reducible assumption) | (with_reducible refine Below.alloc ?_ ?_ _) | (with_reducible refine Below.drew ?_) | (with_reducible refine bdn ?_ _) | (with_reducible refine Below.setCell ?_ ?_ _) | go_size))⟩
      · have hD := Lib.hid (show plainB x = false by simp [plainB, *]); clear e2
        go_wp2
        go_ret
        exact ⟨ret_bool hD.out.symm, by (repeat' (first | (with_reducible exact Below.refl _ _) | (with_reducible assumption) | (with_reducible refine Below.alloc ?_ ?_ _) | (with_reducible refine Below.drew ?_) | (with_reducible refine bdn ?_ _) | (with_reducible refine Below.setCell ?_ ?_ _) | go_size))⟩
      · have hH2 := Lib.hid e2; clear e2
        go_wp2
        rw [rounds_succ]
        rcases okN_cases x.d with ⟨g3, e3⟩ | ⟨g3, k3, e3⟩ | ⟨g3, k3, e3⟩
        · have hD := Lib.hid (show plainB x = false by simp [plainB, *]); clear e3
          go_wp2
          go_ret
          exact ⟨ret_bool hD.out.symm, by (repeat' (first | (with_reducible exact Below.refl _ _) | (with_reducible assumption) | (with_reducible refine Below.alloc ?_ ?_ _) | (with_reducible refine Below.drew ?_) | (with_reducible refine bdn ?_ _) | (with_reducible refine Below.setCell ?_ ?_ _) | go_size))⟩
        · have hD := Lib.hid (show plainB x = false by simp [plainB, *]); clear e3
          go_wp2
          go_ret
          exact ⟨ret_bool hD.out.symm, by (repeat' (first | (with_reducible exact Below.refl _ _) | (with_reducible assumption) | (with_reducible refine Below.alloc ?_ ?_ _) | (with_reducible refine Below.drew ?_) | (with_reducible refine bdn ?_ _) | (with_reducible refine Below.setCell ?_ ?_ _) | go_size))⟩
        · have hH3 := Lib.hid e3; clear e3
          have hD := Lib.hid (show plainB x = true by simp [plainB, hH0.out, hH1.out, hH2.out, hH3.out])
          go_wp2
          rw [rounds_succ]
          go_wp2
          go_ret
          exact ⟨ret_bool hD.out.symm, by (repeat' (first | (with_reducible exact Below.refl _ _) | (with_reducible assumption) | (with_reducible refine Below.alloc ?_ ?_ _) | (with_reducible refine Below.drew ?_) | (with_reducible refine bdn ?_ _) | (with_reducible refine Below.setCell ?_ ?_ _) | go_size))⟩
end Go.Proofs.YtajccjbigcdkbaaGreatDoor
