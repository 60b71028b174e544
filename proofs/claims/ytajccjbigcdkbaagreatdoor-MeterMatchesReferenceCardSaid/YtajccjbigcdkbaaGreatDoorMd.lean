/- AtMost. -/
import Derived.Test.YtajccjbigcdkbaaGreatDoorMc
-- USEBDN
set_option linter.unusedSimpArgs false
set_option linter.unusedVariables false
namespace Go.Proofs.YtajccjbigcdkbaaGreatDoor
open Go.ChangeShapes Go.WideShapes Go.ChangeAt Go.RowKit
set_option maxRecDepth 20000 in
set_option maxHeartbeats 1000000 in
theorem atmost_any (x y : Co) (w : World) : Calls Tryz.prog 11 #[cov x, cov y] w fun e w' => e = .returned (.bool (atM x y)) ∧ Below w.heap.size w w' := by
  have i0 := ixp0
  have i1 := ixp1
  have i2 := ixp2
  have i3 := ixp3
  go_enter Tryz.func11, Tryz.ntmps11
  go_wp2_with (go_at_call 25; refine (parts_any _ _).mono ?_; rintro e w1 ⟨rfl, hb⟩)
  rename_i Q1 w2 hb2 K1 hK1
  have hz2 := hb2.size
  have hz := hb.size
  simp only [World.size_alloc] at hz2 hz
  have hB2 : Below w.heap.size w w2 := bup (w := w) (by (repeat' (first | (with_reducible exact Below.refl _ _) | (with_reducible assumption) | (with_reducible refine Below.alloc ?_ ?_ _) | (with_reducible refine Below.drew ?_) | (with_reducible refine bdn ?_ _) | (with_reducible refine Below.setCell ?_ ?_ _) | go_size))) hb2 (by go_size)
  have hB1 : Below w.heap.size w w1 := bup (w := w) (hB2.alloc (by omega) _) hb (by go_size)
  have bA : w1.heap[w.heap.size]? = some (.cells (coc x) 23) := by
    rw [hb.block _ (by go_size)]; exact Mild.alloc_lt _ (by rw [hb2.block _ (by go_size)]; exact Mild.alloc_lt _ (Mild.alloc_at _ _))
  have bB : w1.heap[w.heap.size + 1]? = some (.cells (coc y) 23) := by
    rw [hb.block _ (by go_size)]; exact Mild.alloc_lt _ (by rw [hb2.block _ (by go_size)]; have := Mild.alloc_at (w.alloc (.cells (coc x) 23)) (.cells (coc y) 23); rw [World.size_alloc] at this; exact this)
  have bL : w1.heap[w2.heap.size]? = some (.cells (ptc (w.heap.size + 1)) 46) := by
    rw [hb.block _ (by go_size)]; exact Mild.alloc_at _ _
  have cA := Mild.cell_of_block bA
  have cB := Mild.cell_of_block bB
  have cL := Mild.cell_of_block bL
  clear bA bB bL hb hb2 hz hz2 hB2
  generalize w2.heap.size = L at cL ⊢
  rcases at_cases x y with ⟨g1, gg⟩ | ⟨g1, g2, gg⟩ | ⟨g1, g2, g3, gg⟩ | ⟨g1, g2, g3, g4, gg⟩ | ⟨g1, g2, g3, g4, gg⟩
  · have hD := Lib.hid gg; clear gg
    refine wp_loop_rounds 5 ?_
    rw [rounds_succ]
    go_wp2
    go_quiet (fail)
    go_wp2
    go_ret
    exact ⟨ret_bool hD.out.symm, by (repeat' (first | (with_reducible exact Below.refl _ _) | (with_reducible assumption) | (with_reducible refine Below.alloc ?_ ?_ _) | (with_reducible refine Below.drew ?_) | (with_reducible refine bdn ?_ _) | (with_reducible refine Below.setCell ?_ ?_ _) | go_size))⟩
  · have hD := Lib.hid gg; clear gg
    refine wp_loop_rounds 5 ?_
    rw [rounds_succ]
    go_wp2
    go_quiet (fail)
    go_wp2
    rw [rounds_succ]
    go_wp2
    go_quiet (fail)
    go_wp2
    go_ret
    exact ⟨ret_bool hD.out.symm, by (repeat' (first | (with_reducible exact Below.refl _ _) | (with_reducible assumption) | (with_reducible refine Below.alloc ?_ ?_ _) | (with_reducible refine Below.drew ?_) | (with_reducible refine bdn ?_ _) | (with_reducible refine Below.setCell ?_ ?_ _) | go_size))⟩
  · have hD := Lib.hid gg; clear gg
    refine wp_loop_rounds 5 ?_
    rw [rounds_succ]
    go_wp2
    go_quiet (fail)
    go_wp2
    rw [rounds_succ]
    go_wp2
    go_quiet (fail)
    go_wp2
    rw [rounds_succ]
    go_wp2
    go_quiet (fail)
    go_wp2
    go_ret
    exact ⟨ret_bool hD.out.symm, by (repeat' (first | (with_reducible exact Below.refl _ _) | (with_reducible assumption) | (with_reducible refine Below.alloc ?_ ?_ _) | (with_reducible refine Below.drew ?_) | (with_reducible refine bdn ?_ _) | (with_reducible refine Below.setCell ?_ ?_ _) | go_size))⟩
  · have hD := Lib.hid gg; clear gg
    refine wp_loop_rounds 5 ?_
    rw [rounds_succ]
    go_wp2
    go_quiet (fail)
    go_wp2
    rw [rounds_succ]
    go_wp2
    go_quiet (fail)
    go_wp2
    rw [rounds_succ]
    go_wp2
    go_quiet (fail)
    go_wp2
    rw [rounds_succ]
    go_wp2
    go_quiet (fail)
    go_wp2
    go_ret
    exact ⟨ret_bool hD.out.symm, by (repeat' (first | (with_reducible exact Below.refl _ _) | (with_reducible assumption) | (with_reducible refine Below.alloc ?_ ?_ _) | (with_reducible refine Below.drew ?_) | (with_reducible refine bdn ?_ _) | (with_reducible refine Below.setCell ?_ ?_ _) | go_size))⟩
  · have hD := Lib.hid gg; clear gg
    refine wp_loop_rounds 5 ?_
    rw [rounds_succ]
    go_wp2
    go_quiet (fail)
    go_wp2
    rw [rounds_succ]
    go_wp2
    go_quiet (fail)
    go_wp2
    rw [rounds_succ]
    go_wp2
    go_quiet (fail)
    go_wp2
    rw [rounds_succ]
    go_wp2
    go_quiet (fail)
    go_wp2
    rw [rounds_succ]
    go_wp2
    go_ret
    exact ⟨ret_bool hD.out.symm, by (repeat' (first | (with_reducible exact Below.refl _ _) | (with_reducible assumption) | (with_reducible refine Below.alloc ?_ ?_ _) | (with_reducible refine Below.drew ?_) | (with_reducible refine bdn ?_ _) | (with_reducible refine Below.setCell ?_ ?_ _) | go_size))⟩
end Go.Proofs.YtajccjbigcdkbaaGreatDoor
