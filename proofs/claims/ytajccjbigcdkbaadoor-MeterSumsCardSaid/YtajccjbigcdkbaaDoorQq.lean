/- MeterSums: the walk. -/
import Derived.Test.YtajccjbigcdkbaaDoorQd
import Derived.Test.YtajccjbigcdkbaaDoorQe
import Derived.Test.YtajccjbigcdkbaaDoorQr
-- USEBDN
set_option linter.unusedSimpArgs false
set_option linter.unusedVariables false
namespace Go.Proofs.YtajccjbigcdkbaaDoor
open Go.ChangeShapes Go.WideShapes Go.ChangeAt Go.RowKit

abbrev a12 (x y z : Co) : Array Value := #[.int .i64 x.a, .int .i64 x.b, .int .i64 x.c, .int .i64 x.d, .int .i64 y.a, .int .i64 y.b, .int .i64 y.c, .int .i64 y.d, .int .i64 z.a, .int .i64 z.b, .int .i64 z.c, .int .i64 z.d]
set_option maxRecDepth 100000 in
set_option maxHeartbeats 4000000 in
theorem sums_walk (x y z : Co) (n : Nat) (hn : n < 256) (w : World) (ht : Tabs w) :
    Calls Tryd.prog 3 #[.agg (a12 x y z), .int .u8 n] w fun e w' => e = .returned (.bool true) ∧ Below w.heap.size w w' := by
  have HT := Lib.hid ht; clear ht
  have ha := law_in x
  have hb' := law_in y
  have hc := law_in z
  have s1 : addM (lawM y) (lawM x) = addM (lawM x) (lawM y) := add_comm' _ _
  have s2 : addM (lawM x) (addM (lawM y) (lawM z)) = addM (addM (lawM x) (lawM y)) (lawM z) := (add_assoc' _ _ _).symm
  have s3 : subM (addM (lawM x) (lawM y)) (lawM y) = lawM x := sub_add _ _ (in40_rng ha)
  have s4 : addM (lawM x) zeroM = lawM x := add_zero' _ (in40_rng ha)
  have s5 : atM (lawM x) (addM (lawM x) (lawM y)) = true := at_add ha hb'
  have s6 : atM (addM (lawM x) (lawM z)) (addM (lawM y) (lawM z)) = atM (lawM x) (lawM y) := at_mono ha hb' hc
  have S1 := Lib.hid s1
  have S2 := Lib.hid s2
  have S3 := Lib.hid s3
  have S4 := Lib.hid s4
  have S5 := Lib.hid s5
  have S6 := Lib.hid s6
  clear s1 s2 s3 s4 s5 s6 ha hb' hc
  go_enter Tryd.func3, Tryd.ntmps3
  go_upto_region 4 with (go_at_call 6; refine (examples_any _ (HT.out.below (by (repeat' (first | (with_reducible exact Below.refl _ _) | (with_reducible assumption) | (with_reducible refine Below.alloc ?_ ?_ _) | (with_reducible refine Below.drew ?_) | (with_reducible refine bdn ?_ _) | (with_reducible refine Below.setCell ?_ ?_ _) | go_size))))).mono ?_; rintro e w1 ⟨rfl, hb⟩)
  have hC0 : Mild.Bks w.heap.size w [(w.heap.size, .cells (a12 x y z) 23)] (w.alloc (.cells (a12 x y z) 23)) := by
    refine ⟨by (repeat' (first | (with_reducible exact Below.refl _ _) | (with_reducible assumption) | (with_reducible refine Below.alloc ?_ ?_ _) | (with_reducible refine Below.drew ?_) | (with_reducible refine bdn ?_ _) | (with_reducible refine Below.setCell ?_ ?_ _) | go_size)), by go_size, ?_⟩
    simp only [List.forall_mem_cons, List.not_mem_nil, false_imp_iff, implies_true, and_true]
    exact Mild.alloc_at _ _
  have hC1 := Mild.Bks.closed _ _ hC0 hb
  have hX1 : w.heap.size < w1.heap.size := by have := hb.size; simp at this; omega
  clear hC0 hb
  have HC := Lib.hid hC1; clear hC1
  refine sums4 w _ w.heap.size x y z hX1 HC.out _ _ _ _ _ _ _ _ _ _ _ _ _ _ _ _ _ _ _ _ _ _ _ _ _ _ _ _ _ _ _ _ _ _ _ _ _ _ _ _ _ _ _ _ _ _ _ _ _ _ _ _ _ _ _ _ _ _ _ _ _ _ _ _ _ _ _ _ _ _ _ _ _ _ _ _ _ _ _ _ _ _ _ _ _ _ _ _ _ _ _ _ _ _ _ _ _ _ _ _ _ _ _ _ _ _ _ _ _ _ _ _ _ _ _ _ _ _ _ _ _ _ _ _ _ _ _ _ _ _ _ _ _ _ _ _ _ _ _ _ _ ?_
  intro A B C j14 j15 j16 j17 j18 j19 j20 j21 j22 W1 hC
  clear HC
  have HC := Lib.hid hC; clear hC hX1
  generalize lawM x = a at *
  generalize lawM y = b at *
  generalize lawM z = c at *
  go_upto_region 5 with (fail)
  refine sums5 w _ A B C a b c _ _ _ rfl S1.out rfl rfl S2.out S3.out S4.out HC.out _ _ _ _ _ _ _ _ _ _ _ _ _ _ _ _ _ _ _ _ _ _ _ _ _ _ _ _ _ _ _ _ _ _ _ _ _ _ _ _ _ _ _ _ _ _ _ _ _ _ _ _ _ _ _ _ _ _ _ _ _ _ _ _ _ _ _ _ _ _ _ _ _ _ _ _ _ _ _ _ _ _ _ _ _ _ _ _ _ _ _ _ _ _ _ _ _ _ _ _ _ _ _ _ _ _ _ _ _ _ _ _ _ _ _ _ _ _ _ _ _ _ _ _ _ _ _ _ _ _ _ _ _ _ _ _ _ _ _ ?_
  intro j23 j24 j25 j26 j27 j28 j29 j30 j31 j32 j33 j34 j35 j36 j37 j38 j39 j40 j41 j42 j43 j44 j45 j46 j47 j48 j49 j50 j51 j52 j53 j54 j55 j56 j57 W2 hC
  clear HC
  have HC := Lib.hid hC; clear hC
  go_upto_region 7 with (fail)
  have hb := HC.out.blocks
  simp only [List.forall_mem_cons, List.not_mem_nil, false_imp_iff, implies_true, and_true] at hb
  obtain ⟨bA, bB, bC⟩ := hb
  have cA := Mild.cell_of_block bA
  have cB := Mild.cell_of_block bB
  have cC := Mild.cell_of_block bC
  clear bA bB bC
  go_upto_region 9 with (fail)
  have hC4 : Mild.Bks w.heap.size w [(A, .cells (coc a) 26), (B, .cells (coc b) 26), (C, .cells (coc c) 26), (W2.heap.size, .cells (lc a b c) 26)] (W2.alloc (.cells (lc a b c) 26)) := by
    have h := Mild.Bks.closed _ _ HC.out ((Below.refl W2.heap.size W2).alloc (Nat.le_refl _) (.cells (lc a b c) 26))
    have hb := h.blocks
    simp only [List.forall_mem_cons, List.not_mem_nil, false_imp_iff, implies_true, and_true] at hb
    obtain ⟨b1, b2, b3⟩ := hb
    refine ⟨h.below, h.big, ?_⟩
    simp only [List.forall_mem_cons, List.not_mem_nil, false_imp_iff, implies_true, and_true]
    exact ⟨b1, b2, b3, Mild.alloc_at _ _⟩
  clear HC cA cB cC
  have HC := Lib.hid hC4; clear hC4
  have hk0 : 0 ≤ (n : Int) % 5 := by omega
  have hk1 : (n : Int) % 5 < 5 := by omega
  refine sums9 w _ A B C W2.heap.size a b c _ ⟨hk0, hk1⟩ HC.out _ _ _ _ _ _ _ _ _ _ _ _ _ _ _ _ _ _ _ _ _ _ _ _ _ _ _ _ _ _ _ _ _ _ _ _ _ _ _ _ _ _ _ _ _ _ _ _ _ _ _ _ _ _ _ _ _ _ _ _ _ _ _ _ _ _ _ _ _ _ _ _ _ _ _ _ _ _ _ _ _ _ _ _ _ _ _ _ _ _ _ _ _ _ _ _ _ _ _ _ _ _ _ _ _ _ _ _ _ _ _ _ _ _ _ _ _ _ _ _ _ _ _ _ _ _ _ _ _ _ _ _ _ _ _ _ _ ?_
  intro j67 j68 j69 j70 j71 j72 j73 j74 j75 j76 j77 j78 j79 j80 j81 j82 W3 hC
  clear HC
  have HC := Lib.hid (bks_sub (bs' := [(A, .cells (coc a) 26), (B, .cells (coc b) 26), (C, .cells (coc c) 26)]) hC (by simp)); clear hC
  go_upto_region 11 with (fail)
  refine sums11 w _ A B C a b c S5.out HC.out _ _ _ _ _ _ _ _ _ _ _ _ _ _ _ _ _ _ _ _ _ _ _ _ _ _ _ _ _ _ _ _ _ _ _ _ _ _ _ _ _ _ _ _ _ _ _ _ _ _ _ _ _ _ _ _ _ _ _ _ _ _ _ _ _ _ _ _ _ _ _ _ _ _ _ _ _ _ _ _ _ _ _ _ _ _ _ _ _ _ _ _ _ _ _ _ _ _ _ _ _ _ _ _ _ _ _ _ _ _ _ _ _ _ _ _ _ _ _ _ _ _ _ _ _ _ _ _ _ _ _ _ _ _ _ _ _ _ _ ?_
  intro j84 j85 j86 j87 j88 j89 j90 j91 j92 j93 j94 j95 j96 j97 j98 j99 j100 j101 j102 j103 j104 j105 j106 j107 j108 j109 j110 j111 j112 j113 j114 j115 j116 j117 j118 j119 j120 j121 j122 j123 j124 j125 W4 hC
  clear HC
  have HC := Lib.hid hC; clear hC
  go_upto_region 13 with (fail)
  refine sums13 w _ A B C a b c _ _ _ rfl rfl rfl S6.out HC.out _ _ _ _ _ _ _ _ _ _ _ _ _ _ _ _ _ _ _ _ _ _ _ _ _ _ _ _ _ _ _ _ _ _ _ _ _ _ _ _ _ _ _ _ _ _ _ _ _ _ _ _ _ _ _ _ _ _ _ _ _ _ _ _ _ _ _ _ _ _ _ _ _ _ _ _ _ _ _ _ _ _ _ _ _ _ _ _ _ _ _ _ _ _ _ _ _ _ _ _ _ _ _ _ _ _ _ _ _ _ _ _ _ _ _ _ _ _ _ _ _ _ _ _ _ _ _ _ _ _ _ _ _ _ _ _ _ _ ?_
  intro j127 j128 j129 j130 j131 j132 j133 j134 j135 j136 j137 j138 j139 j140 W5 hC
  clear HC
  have HC := Lib.hid hC; clear hC
  go_wp2
  go_ret
  exact ⟨rfl, HC.out.below⟩
end Go.Proofs.YtajccjbigcdkbaaDoor
