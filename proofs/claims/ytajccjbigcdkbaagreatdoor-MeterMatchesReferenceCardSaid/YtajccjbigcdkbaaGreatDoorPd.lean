/- The examples. -/
import Derived.Test.YtajccjbigcdkbaaGreatDoorPc
-- USEBDN
set_option linter.unusedSimpArgs false
set_option linter.unusedVariables false
namespace Go.Proofs.YtajccjbigcdkbaaGreatDoor
open Go.ChangeShapes Go.WideShapes Go.ChangeAt Go.RowKit
theorem e8_any (w : World) : Calls Tryz.prog 7 #[.agg #[.int .i64 12, .int .i64 3, .int .i64 4, .int .i64 0], .agg #[.int .i64 12, .int .i64 3, .int .i64 4, .int .i64 0]] w fun e w' => e = .returned (.agg #[.int .i64 24, .int .i64 6, .int .i64 8, .int .i64 0]) ∧ Below w.heap.size w w' := by
  have := add_any exC exC w
  rw [exB.1] at this
  exact this
theorem e9_any (w : World) : Calls Tryz.prog 9 #[.agg #[.int .i64 12, .int .i64 3, .int .i64 4, .int .i64 0], .agg #[.int .i64 12, .int .i64 3, .int .i64 4, .int .i64 0]] w fun e w' => e = .returned (.agg #[.int .i64 0, .int .i64 0, .int .i64 0, .int .i64 0]) ∧ Below w.heap.size w w' := by
  have := sub_any exC exC w
  rw [exB.2.1] at this
  exact this
theorem e11_any (w : World) : Calls Tryz.prog 11 #[.agg #[.int .i64 12, .int .i64 3, .int .i64 4, .int .i64 0], .agg #[.int .i64 12, .int .i64 3, .int .i64 4, .int .i64 0]] w fun e w' => e = .returned (.bool true) ∧ Below w.heap.size w w' := by
  have := atmost_any exC exC w
  rw [exB.2.2.1] at this
  exact this
theorem e12_any (w : World) : Calls Tryz.prog 11 #[.agg #[.int .i64 12, .int .i64 3, .int .i64 4, .int .i64 0], .agg #[.int .i64 5, .int .i64 0, .int .i64 10, .int .i64 1]] w fun e w' => e = .returned (.bool false) ∧ Below w.heap.size w w' := by
  have := atmost_any exC exD w
  rw [exB.2.2.2.1] at this
  exact this
theorem e10_any (W : World) (L : Nat) (hL : W.heap[L]? = some (.cells exL 23)) : Calls Tryz.prog 17 #[.slice (some ⟨L, 0, none⟩) 2 2] W fun e w' => e = .returned (.agg #[.int .i64 105, .int .i64 2, .int .i64 13, .int .i64 5]) ∧ Below W.heap.size W w' := by
  have := sum_any L 0 2 [exD, exE] W (Mild.lt_of_block hL) (by decide) (ex_row hL)
  rw [exB.2.2.2.2] at this
  exact this

set_option maxRecDepth 100000 in
set_option maxHeartbeats 4000000 in
theorem ex6 (w0 W : World) (A L : Nat) (hC : Mild.Bks w0.heap.size w0 [(A, .cells (coc exC) 23), (L, .cells exL 23)] W)
    (j3 j4 j5 j6 j7 j8 j9 j10 j11 j12 j13 j14 j15 j16 j17 j18 j19 j20 j21 j22 j23 j24 j25 j26 j27 j28 j29 j30 j31 j32 j33 j34 j35 j36 j37 j38 j39 j40 j41 j42 j43 j44 j45 j46 j47 j48 j49 j50 j51 j52 j53 j54 j55 j56 j57 j58 j59 j60 j61 j62 j63 j64 j65 j66 : Value) (Q0 : Exit → Act → World → Prop)
    (h0 : ∀ j36 j37 j38 j39 j40 j41 j42 j43 j44 j45 j46 j47 j48 j49 j50 j51 j52 j53 j54 j55 j56 j57 j58 j59 j60 j61 j62 j63 j64 j65 j66 W', Mild.Bks w0.heap.size w0 [(A, .cells (coc exC) 23), (L, .cells exL 23)] W' → Q0 .normal { tmps := #[.bool true, pt A 0, .slice (some ⟨L, 0, none⟩) 2 2, j3, j4, j5, j6, j7, j8, j9, j10, j11, j12, j13, j14, j15, j16, j17, j18, j19, j20, j21, j22, j23, j24, j25, j26, j27, j28, j29, j30, j31, j32, j33, j34, j35, j36, j37, j38, j39, j40, j41, j42, j43, j44, j45, j46, j47, j48, j49, j50, j51, j52, j53, j54, j55, j56, j57, j58, j59, j60, j61, j62, j63, j64, j65, j66], defers := [] } W') :
    (navC [1, 1, 1, 1, 1, 0] (Tryz.f4.body.getD .skip)).wp Tryz.prog Q0 { tmps := #[.bool false, pt A 0, .slice (some ⟨L, 0, none⟩) 2 2, j3, j4, j5, j6, j7, j8, j9, j10, j11, j12, j13, j14, j15, j16, j17, j18, j19, j20, j21, j22, j23, j24, j25, j26, j27, j28, j29, j30, j31, j32, j33, j34, j35, j36, j37, j38, j39, j40, j41, j42, j43, j44, j45, j46, j47, j48, j49, j50, j51, j52, j53, j54, j55, j56, j57, j58, j59, j60, j61, j62, j63, j64, j65, j66], defers := [] } W := by
  conv => arg 2; whnf
  refine Mild.region_mild 31 [] (Mild.Bks w0.heap.size w0 [(A, .cells (coc exC) 23), (L, .cells exL 23)]) (by kernel_rfl) 67 (by kernel_rfl) rfl (by simp) Mild.Bks.closed hC (by simp) ?H
  apply Exists.intro
  refine ⟨?HW, ?HT⟩
  case HW =>
    intro W hW
    have hb := hW.blocks
    simp only [List.forall_mem_cons, List.not_mem_nil, false_imp_iff, implies_true, and_true] at hb
    obtain ⟨bA, bL⟩ := hb
    have cA : ∀ k, W.cell? ⟨A, k, none⟩ = (#[.int .i64 12, .int .i64 3, .int .i64 4, .int .i64 0] : Array Value)[k]? := Mild.cell_of_block bA
    have cL := Mild.cell_of_block bL
    have HL := Lib.hid bL
    clear hW bA bL
    simp only [List.take_succ_cons, List.take_zero]
    apply Mild.walkM_q rfl
    go_wp2
    refine ⟨rfl, rfl, Below.refl _ _, ?_⟩
    apply Mild.walkM_q rfl
    go_wp2
    refine ⟨rfl, rfl, Below.refl _ _, ?_⟩
    apply Mild.walkM_q rfl
    go_wp2_with (go_at_call 7; refine (e8_any _).mono ?_; rintro e w1 ⟨rfl, hb⟩)
    refine ⟨rfl, rfl, hb, ?_⟩
    apply Mild.walkM_q rfl
    go_wp2
    refine ⟨rfl, rfl, Below.refl _ _, ?_⟩
    apply Mild.walkM_q rfl
    go_wp2
    refine ⟨rfl, rfl, Below.refl _ _, ?_⟩
    apply Mild.walkM_q rfl
    go_wp2
    refine ⟨rfl, rfl, Below.refl _ _, ?_⟩
    apply Mild.walkM_q rfl
    go_wp2
    refine ⟨rfl, rfl, Below.refl _ _, ?_⟩
    apply Mild.walkM_q rfl
    go_wp2
    refine ⟨rfl, rfl, Below.refl _ _, ?_⟩
    apply Mild.walkM_q rfl
    go_wp2_with (go_at_call 9; refine (e9_any _).mono ?_; rintro e w1 ⟨rfl, hb⟩)
    refine ⟨rfl, rfl, hb, ?_⟩
    apply Mild.walkM_q rfl
    go_wp2
    refine ⟨rfl, rfl, Below.refl _ _, ?_⟩
    apply Mild.walkM_q rfl
    go_wp2
    refine ⟨rfl, rfl, Below.refl _ _, ?_⟩
    apply Mild.walkM_q rfl
    go_wp2
    refine ⟨rfl, rfl, Below.refl _ _, ?_⟩
    apply Mild.walkM_q rfl
    go_wp2
    refine ⟨rfl, rfl, Below.refl _ _, ?_⟩
    apply Mild.walkM_q rfl
    go_wp2
    refine ⟨rfl, rfl, Below.refl _ _, ?_⟩
    apply Mild.walkM_q rfl
    go_wp2
    refine ⟨rfl, rfl, Below.refl _ _, ?_⟩
    apply Mild.walkM_q rfl
    go_wp2_with (go_at_call 11; refine (e11_any _).mono ?_; rintro e w1 ⟨rfl, hb⟩)
    refine ⟨rfl, rfl, hb, ?_⟩
    apply Mild.walkM_q rfl
    go_wp2
    refine ⟨rfl, rfl, Below.refl _ _, ?_⟩
    apply Mild.walkM_q rfl
    go_wp2
    refine ⟨rfl, rfl, Below.refl _ _, ?_⟩
    apply Mild.walkM_q rfl
    go_wp2
    refine ⟨rfl, rfl, Below.refl _ _, ?_⟩
    apply Mild.walkM_q rfl
    go_wp2
    refine ⟨rfl, rfl, Below.refl _ _, ?_⟩
    apply Mild.walkM_q rfl
    go_wp2
    refine ⟨rfl, rfl, Below.refl _ _, ?_⟩
    apply Mild.walkM_q rfl
    go_wp2
    refine ⟨rfl, rfl, Below.refl _ _, ?_⟩
    apply Mild.walkM_q rfl
    go_wp2_with (go_at_call 11; refine (e12_any _).mono ?_; rintro e w1 ⟨rfl, hb⟩)
    refine ⟨rfl, rfl, hb, ?_⟩
    apply Mild.walkM_q rfl
    go_wp2
    refine ⟨rfl, rfl, Below.refl _ _, ?_⟩
    apply Mild.walkM_q rfl
    go_wp2
    refine ⟨rfl, rfl, Below.refl _ _, ?_⟩
    apply Mild.walkM_q rfl
    go_wp2
    refine ⟨rfl, rfl, Below.refl _ _, ?_⟩
    apply Mild.walkM_q rfl
    go_wp2
    refine ⟨rfl, rfl, Below.refl _ _, ?_⟩
    apply Mild.walkM_q rfl
    go_wp2_with (go_at_call 17; refine (e10_any _ L HL.out).mono ?_; rintro e w1 ⟨rfl, hb⟩)
    refine ⟨rfl, rfl, hb, ?_⟩
    apply Mild.walkM_q rfl
    go_wp2
    refine ⟨rfl, rfl, Below.refl _ _, ?_⟩
    apply Mild.walkM_q rfl
    go_wp2
    refine ⟨rfl, rfl, Below.refl _ _, ?_⟩
    apply Mild.walkM_q rfl
    go_wp2
    refine ⟨rfl, rfl, Below.refl _ _, ?_⟩
    exact Mild.walkM_end rfl
  case HT =>
    intro F w2 hC2 _ _
    simp only [List.drop_succ_cons, List.drop_zero, Mild.putAll, List.foldl_cons, List.foldl_nil, Mild.ptrTo, Act.put, List.setIfInBounds_toArray, List.set_cons_zero, List.set_cons_succ]
    have HC2 := Lib.hid hC2; clear hC2 hC
    go_wp2
    exact HC2.out
set_option maxRecDepth 100000 in
set_option maxHeartbeats 4000000 in
theorem examples_any (w : World) (ht : Tabs w) : Calls Tryz.prog 4 #[] w fun e w' => e = .returned (.bool true) ∧ Below w.heap.size w w' := by
  have HT := Lib.hid ht; clear ht
  go_enter Tryz.func4, Tryz.ntmps4
  go_upto_region 4 with (fail)
  have hC : Mild.Bks w.heap.size w [(w.heap.size, .cells (coc exC) 23), (w.heap.size + 1, .cells exL 23)] ((w.alloc (.cells #[.int .i64 12, .int .i64 3, .int .i64 4, .int .i64 0] 23)).alloc (.cells exL 23)) := by
    refine ⟨by (repeat' (first | (with_reducible exact Below.refl _ _) | (with_reducible assumption) | (with_reducible refine Below.alloc ?_ ?_ _) | (with_reducible refine Below.drew ?_) | (with_reducible refine bdn ?_ _) | (with_reducible refine Below.setCell ?_ ?_ _) | go_size)), by go_size, ?_⟩
    simp only [List.forall_mem_cons, List.not_mem_nil, false_imp_iff, implies_true, and_true]
    exact ⟨Mild.alloc_lt _ (Mild.alloc_at _ _), by have := Mild.alloc_at (w.alloc (.cells #[.int .i64 12, .int .i64 3, .int .i64 4, .int .i64 0] 23)) (.cells exL 23); rw [World.size_alloc] at this; exact this⟩
  refine ex4 w _ HT.out w.heap.size (w.heap.size + 1) hC _ _ _ _ _ _ _ _ _ _ _ _ _ _ _ _ _ _ _ _ _ _ _ _ _ _ _ _ _ _ _ _ _ _ _ _ _ _ _ _ _ _ _ _ _ _ _ _ _ _ _ _ _ _ _ _ _ _ _ _ _ _ _ _ ?_
  clear hC
  intro j8 j9 j10 j11 j12 j13 j14 j15 j16 j17 j18 j19 j20 j21 j22 j23 j24 j25 j26 j27 j28 j29 j30 j31 j32 j33 j34 W' hC'
  have HC := Lib.hid hC'; clear hC'
  go_upto_region 6 with (fail)
  refine ex6 w _ w.heap.size (w.heap.size + 1) HC.out _ _ _ _ _ _ _ _ _ _ _ _ _ _ _ _ _ _ _ _ _ _ _ _ _ _ _ _ _ _ _ _ _ _ _ _ _ _ _ _ _ _ _ _ _ _ _ _ _ _ _ _ _ _ _ _ _ _ _ _ _ _ _ _ _ ?_
  intro j36 j37 j38 j39 j40 j41 j42 j43 j44 j45 j46 j47 j48 j49 j50 j51 j52 j53 j54 j55 j56 j57 j58 j59 j60 j61 j62 j63 j64 j65 j66 W2 hC2
  have HC2 := Lib.hid hC2; clear hC2
  go_wp2
  go_ret
  exact ⟨rfl, HC2.out.below⟩
end Go.Proofs.YtajccjbigcdkbaaGreatDoor
