/- MeterTexts: the walk. -/
import Derived.Test.YtajccjbigcdkbaaDoorRa
import Derived.Test.YtajccjbigcdkbaaDoorRb
import Derived.Test.YtajccjbigcdkbaaDoorRc
import Derived.Test.YtajccjbigcdkbaaDoorRd
-- USEBDN
set_option linter.unusedSimpArgs false
set_option linter.unusedVariables false
namespace Go.Proofs.YtajccjbigcdkbaaDoor
open Go.ChangeShapes Go.WideShapes Go.ChangeAt Go.RowKit

abbrev a8 (x y : Co) : Array Value := #[.int .i64 x.a, .int .i64 x.b, .int .i64 x.c, .int .i64 x.d, .int .i64 y.a, .int .i64 y.b, .int .i64 y.c, .int .i64 y.d]
abbrev b3 (p q r : Int) : Array Value := #[.int .u8 p, .int .u8 q, .int .u8 r]
set_option maxRecDepth 100000 in
set_option maxHeartbeats 4000000 in
theorem texts_walk (x y : Co) (p q r : Nat) (hp : p < 256) (w : World) (ht : Tabs w) :
    Calls Tryd.prog 4 #[.agg (a8 x y), .agg (b3 p q r)] w fun e w' => e = .returned (.bool true) ∧ Below w.heap.size w w' := by
  have HT := Lib.hid ht; clear ht
  have ha := law_in x
  have hb' := law_in y
  have HA := Lib.hid ha
  have HB := Lib.hid hb'
  clear ha hb'
  go_enter Tryd.func4, Tryd.ntmps4
  go_upto_region 4 with (go_at_call 6; refine (examples_any _ (HT.out.below (by (repeat' (first | (with_reducible exact Below.refl _ _) | (with_reducible assumption) | (with_reducible refine Below.alloc ?_ ?_ _) | (with_reducible refine Below.drew ?_) | (with_reducible refine bdn ?_ _) | (with_reducible refine Below.setCell ?_ ?_ _) | go_size))))).mono ?_; rintro e w1 ⟨rfl, hb⟩)
  have hC0 : Mild.Bks w.heap.size w [(w.heap.size, .cells (a8 x y) 33), (w.heap.size + 1, .cells (b3 p q r) 34)] ((w.alloc (.cells (a8 x y) 33)).alloc (.cells (b3 p q r) 34)) := by
    refine ⟨by (repeat' (first | (with_reducible exact Below.refl _ _) | (with_reducible assumption) | (with_reducible refine Below.alloc ?_ ?_ _) | (with_reducible refine Below.drew ?_) | (with_reducible refine bdn ?_ _) | (with_reducible refine Below.setCell ?_ ?_ _) | go_size)), by go_size, ?_⟩
    simp only [List.forall_mem_cons, List.not_mem_nil, false_imp_iff, implies_true, and_true]
    exact ⟨Mild.alloc_lt _ (Mild.alloc_at _ _), by have := Mild.alloc_at (w.alloc (.cells (a8 x y) 33)) (.cells (b3 p q r) 34); rw [World.size_alloc] at this; exact this⟩
  have hC1 := Mild.Bks.closed _ _ hC0 hb
  have hX1 : w.heap.size < w1.heap.size := by have := hb.size; simp at this; omega
  have hY1 : w.heap.size + 1 < w1.heap.size := by have := hb.size; simp at this; omega
  clear hC0 hb
  have HC := Lib.hid hC1; clear hC1
  refine texts4 w _ w.heap.size (w.heap.size + 1) x y p q r hX1 hY1 HC.out _ _ _ _ _ _ _ _ _ _ _ _ _ _ _ _ _ _ _ _ _ _ _ _ _ _ _ _ _ _ _ _ _ _ _ _ _ _ _ _ _ _ _ _ _ _ _ _ _ _ _ _ _ _ _ _ _ _ _ _ _ _ _ _ _ _ _ _ _ _ _ _ _ _ _ _ _ _ _ _ _ _ _ _ _ _ _ _ _ _ _ _ _ _ _ _ _ _ _ _ _ _ _ _ _ _ _ _ _ _ _ _ _ _ _ _ _ _ _ _ _ _ _ _ _ _ _ _ _ _ ?_
  intro A B j16 j17 j18 j19 j20 j21 W1 hC
  clear HC
  have HC := Lib.hid hC; clear hC hX1 hY1
  generalize lawM x = a at *
  generalize lawM y = b at *
  have hb := HC.out.blocks
  simp only [List.forall_mem_cons, List.not_mem_nil, false_imp_iff, implies_true, and_true] at hb
  have cA := Mild.cell_of_block hb.1
  clear hb
  go_upto_region 6 with (go_at_call 12; refine (text_any a _ (HT.out.below (HC.out.below)) (in40_rng HA.out)).mono ?_; rintro e w1 ⟨rfl, hb⟩)
  have hC1 := Mild.Bks.closed _ _ HC.out hb
  clear HC cA hb
  have HC := Lib.hid hC1; clear hC1
  refine texts6 w _ HT.out w.heap.size (w.heap.size + 1) A B a b p q r HA.out HB.out HC.out _ _ _ _ _ _ _ _ _ _ _ _ _ _ _ _ _ _ _ _ _ _ _ _ _ _ _ _ _ _ _ _ _ _ _ _ _ _ _ _ _ _ _ _ _ _ _ _ _ _ _ _ _ _ _ _ _ _ _ _ _ _ _ _ _ _ _ _ _ _ _ _ _ _ _ _ _ _ _ _ _ _ _ _ _ _ _ _ _ _ _ _ _ _ _ _ _ _ _ _ _ _ _ _ _ _ _ _ _ _ _ _ _ _ _ _ _ _ _ _ _ _ _ _ _ _ _ ?_
  intro j24 j25 j26 j27 j28 j29 j30 j31 j32 j33 j34 j35 j36 j37 j38 j39 j40 j41 j42 W2 hC
  clear HC
  have HC := Lib.hid hC; clear hC
  have hz := text_size a (in40_plain HA.out)
  generalize textM a = s at *
  have hb := HC.out.blocks
  simp only [List.forall_mem_cons, List.not_mem_nil, false_imp_iff, implies_true, and_true] at hb
  have cY := Mild.cell_of_block hb.2.2
  clear hb
  have hz0 : ¬ (s.size : Int) = 0 := by omega
  obtain ⟨i, hi⟩ : ∃ i : Nat, ((p : Int) % (s.size : Int)) = (i : Int) := ⟨p % s.size, by omega⟩
  have hi1 : i < s.size := by
    have := Int.emod_lt_of_pos (p : Int) (show (0 : Int) < s.size by omega)
    omega
  go_upto_region 9 with (fail)
  have hC9 : Mild.Bks w.heap.size w [(w.heap.size + 1, .cells (b3 p q r) 34)] W2 := bks_tail (bks_tail HC.out)
  clear HC cY
  have HC := Lib.hid hC9; clear hC9
  rw [hi]
  refine texts9 w _ w.heap.size (w.heap.size + 1) p q r s i hi1 hz.1 HC.out _ _ _ _ _ _ _ _ _ _ _ _ _ _ _ _ _ _ _ _ _ _ _ _ _ _ _ _ _ _ _ _ _ _ _ _ _ _ _ _ _ _ _ _ _ _ _ _ _ _ _ _ _ _ _ _ _ _ _ _ _ _ _ _ _ _ _ _ _ _ _ _ _ _ _ _ _ _ _ _ _ _ _ _ _ _ _ _ _ _ _ _ _ _ _ _ _ _ _ _ _ _ _ _ _ _ _ _ _ _ _ _ _ _ _ _ _ _ _ _ _ _ _ _ _ _ _ _ ?_
  intro j50 j51 j52 j53 j54 j55 j56 j57 j58 j59 j60 j61 j62 j63 j64 j65 j66 j67 j68 j69 j70 j71 j72 j73 j74 j75 j76 j77 j78 j79 j80 j81 j82 j83 j84 j85 j86 j87 j88 j89 L S0 S1 S2 S3 S4 W3 hS hC
  clear HC hi hi1 hz hz0
  have HC := Lib.hid hC; clear hC
  have HS := Lib.hid hS; clear hS
  go_wp2
  refine wp_loop_rounds 6 ?_
  rw [rounds_succ]
  have hb := HC.out.blocks
  simp only [List.forall_mem_cons, List.not_mem_nil, false_imp_iff, implies_true, and_true] at hb
  have cL := Mild.cell_of_block hb
  clear hb
  obtain ⟨C, E, hce, hway⟩ := ways S0
  have HCE := Lib.hid hce
  have HWY := Lib.hid hway
  clear hce hway
  go_upto_region 14 with (go_at_call 13; refine (parsed_ce _ HS.out.1 C E HCE _ (HT.out.below HC.out.below)).mono ?_; rintro e w1 ⟨rfl, hb⟩)
  have hC4 : Mild.Bks w.heap.size w [(w1.heap.size, .cells #[.int .i64 C.a, .int .i64 C.b, .int .i64 C.c, .int .i64 C.d, .int .i64 E] 38), (L, (.cells #[.string S0, .string S1, .string S2, .string S3, .string S4] 9))] (w1.alloc (.cells #[.int .i64 C.a, .int .i64 C.b, .int .i64 C.c, .int .i64 C.d, .int .i64 E] 38)) := by
    have h0 := Mild.Bks.closed _ _ HC.out hb
    have h := Mild.Bks.closed _ _ h0 ((Below.refl w1.heap.size w1).alloc (Nat.le_refl _) (.cells #[.int .i64 C.a, .int .i64 C.b, .int .i64 C.c, .int .i64 C.d, .int .i64 E] 38))
    have hb := h.blocks
    simp only [List.forall_mem_cons, List.not_mem_nil, false_imp_iff, implies_true, and_true] at hb
    refine ⟨h.below, h.big, ?_⟩
    simp only [List.forall_mem_cons, List.not_mem_nil, false_imp_iff, implies_true, and_true]
    exact ⟨Mild.alloc_at _ _, hb⟩
  clear HC cL hb
  refine texts14 w _ HT.out w1.heap.size L S0 S1 S2 S3 S4 S0 C E HWY.out 0 (by omega) rfl hC4 _ _ _ _ _ _ _ _ _ _ _ _ _ _ _ _ _ _ _ _ _ _ _ _ _ _ _ _ _ _ _ _ _ _ _ _ _ _ _ _ _ _ _ _ _ _ _ _ _ _ _ _ _ _ _ _ _ _ _ _ _ _ _ _ _ _ _ _ _ _ _ _ _ _ _ _ _ _ _ _ _ _ _ _ _ _ _ _ _ _ _ _ _ _ _ _ _ _ _ _ _ _ _ _ _ _ _ _ _ _ _ _ _ _ _ _ _ _ _ _ _ _ _ _ _ _ _ _ _ ?_
  clear hC4
  intro j101 j102 j103 j104 j105 j106 j107 j108 j109 j110 j111 j112 j113 j114 j115 j116 j117 j118 j119 j120 j121 j122 j123 j124 j125 j126 j127 j128 W4 hC
  have HC := Lib.hid hC; clear hC HCE HWY
  go_wp2
  rw [rounds_succ]
  have hb := HC.out.blocks
  simp only [List.forall_mem_cons, List.not_mem_nil, false_imp_iff, implies_true, and_true] at hb
  have cL := Mild.cell_of_block hb
  clear hb
  obtain ⟨C, E, hce, hway⟩ := ways S1
  have HCE := Lib.hid hce
  have HWY := Lib.hid hway
  clear hce hway
  go_upto_region 14 with (go_at_call 13; refine (parsed_ce _ HS.out.2.1 C E HCE _ (HT.out.below HC.out.below)).mono ?_; rintro e w1 ⟨rfl, hb⟩)
  have hC4 : Mild.Bks w.heap.size w [(w1.heap.size, .cells #[.int .i64 C.a, .int .i64 C.b, .int .i64 C.c, .int .i64 C.d, .int .i64 E] 38), (L, (.cells #[.string S0, .string S1, .string S2, .string S3, .string S4] 9))] (w1.alloc (.cells #[.int .i64 C.a, .int .i64 C.b, .int .i64 C.c, .int .i64 C.d, .int .i64 E] 38)) := by
    have h0 := Mild.Bks.closed _ _ HC.out hb
    have h := Mild.Bks.closed _ _ h0 ((Below.refl w1.heap.size w1).alloc (Nat.le_refl _) (.cells #[.int .i64 C.a, .int .i64 C.b, .int .i64 C.c, .int .i64 C.d, .int .i64 E] 38))
    have hb := h.blocks
    simp only [List.forall_mem_cons, List.not_mem_nil, false_imp_iff, implies_true, and_true] at hb
    refine ⟨h.below, h.big, ?_⟩
    simp only [List.forall_mem_cons, List.not_mem_nil, false_imp_iff, implies_true, and_true]
    exact ⟨Mild.alloc_at _ _, hb⟩
  clear HC cL hb
  refine texts14 w _ HT.out w1.heap.size L S0 S1 S2 S3 S4 S1 C E HWY.out 1 (by omega) rfl hC4 _ _ _ _ _ _ _ _ _ _ _ _ _ _ _ _ _ _ _ _ _ _ _ _ _ _ _ _ _ _ _ _ _ _ _ _ _ _ _ _ _ _ _ _ _ _ _ _ _ _ _ _ _ _ _ _ _ _ _ _ _ _ _ _ _ _ _ _ _ _ _ _ _ _ _ _ _ _ _ _ _ _ _ _ _ _ _ _ _ _ _ _ _ _ _ _ _ _ _ _ _ _ _ _ _ _ _ _ _ _ _ _ _ _ _ _ _ _ _ _ _ _ _ _ _ _ _ _ _ ?_
  clear hC4
  intro j101 j102 j103 j104 j105 j106 j107 j108 j109 j110 j111 j112 j113 j114 j115 j116 j117 j118 j119 j120 j121 j122 j123 j124 j125 j126 j127 j128 W4 hC
  have HC := Lib.hid hC; clear hC HCE HWY
  go_wp2
  rw [rounds_succ]
  have hb := HC.out.blocks
  simp only [List.forall_mem_cons, List.not_mem_nil, false_imp_iff, implies_true, and_true] at hb
  have cL := Mild.cell_of_block hb
  clear hb
  obtain ⟨C, E, hce, hway⟩ := ways S2
  have HCE := Lib.hid hce
  have HWY := Lib.hid hway
  clear hce hway
  go_upto_region 14 with (go_at_call 13; refine (parsed_ce _ HS.out.2.2.1 C E HCE _ (HT.out.below HC.out.below)).mono ?_; rintro e w1 ⟨rfl, hb⟩)
  have hC4 : Mild.Bks w.heap.size w [(w1.heap.size, .cells #[.int .i64 C.a, .int .i64 C.b, .int .i64 C.c, .int .i64 C.d, .int .i64 E] 38), (L, (.cells #[.string S0, .string S1, .string S2, .string S3, .string S4] 9))] (w1.alloc (.cells #[.int .i64 C.a, .int .i64 C.b, .int .i64 C.c, .int .i64 C.d, .int .i64 E] 38)) := by
    have h0 := Mild.Bks.closed _ _ HC.out hb
    have h := Mild.Bks.closed _ _ h0 ((Below.refl w1.heap.size w1).alloc (Nat.le_refl _) (.cells #[.int .i64 C.a, .int .i64 C.b, .int .i64 C.c, .int .i64 C.d, .int .i64 E] 38))
    have hb := h.blocks
    simp only [List.forall_mem_cons, List.not_mem_nil, false_imp_iff, implies_true, and_true] at hb
    refine ⟨h.below, h.big, ?_⟩
    simp only [List.forall_mem_cons, List.not_mem_nil, false_imp_iff, implies_true, and_true]
    exact ⟨Mild.alloc_at _ _, hb⟩
  clear HC cL hb
  refine texts14 w _ HT.out w1.heap.size L S0 S1 S2 S3 S4 S2 C E HWY.out 2 (by omega) rfl hC4 _ _ _ _ _ _ _ _ _ _ _ _ _ _ _ _ _ _ _ _ _ _ _ _ _ _ _ _ _ _ _ _ _ _ _ _ _ _ _ _ _ _ _ _ _ _ _ _ _ _ _ _ _ _ _ _ _ _ _ _ _ _ _ _ _ _ _ _ _ _ _ _ _ _ _ _ _ _ _ _ _ _ _ _ _ _ _ _ _ _ _ _ _ _ _ _ _ _ _ _ _ _ _ _ _ _ _ _ _ _ _ _ _ _ _ _ _ _ _ _ _ _ _ _ _ _ _ _ _ ?_
  clear hC4
  intro j101 j102 j103 j104 j105 j106 j107 j108 j109 j110 j111 j112 j113 j114 j115 j116 j117 j118 j119 j120 j121 j122 j123 j124 j125 j126 j127 j128 W4 hC
  have HC := Lib.hid hC; clear hC HCE HWY
  go_wp2
  rw [rounds_succ]
  have hb := HC.out.blocks
  simp only [List.forall_mem_cons, List.not_mem_nil, false_imp_iff, implies_true, and_true] at hb
  have cL := Mild.cell_of_block hb
  clear hb
  obtain ⟨C, E, hce, hway⟩ := ways S3
  have HCE := Lib.hid hce
  have HWY := Lib.hid hway
  clear hce hway
  go_upto_region 14 with (go_at_call 13; refine (parsed_ce _ HS.out.2.2.2.1 C E HCE _ (HT.out.below HC.out.below)).mono ?_; rintro e w1 ⟨rfl, hb⟩)
  have hC4 : Mild.Bks w.heap.size w [(w1.heap.size, .cells #[.int .i64 C.a, .int .i64 C.b, .int .i64 C.c, .int .i64 C.d, .int .i64 E] 38), (L, (.cells #[.string S0, .string S1, .string S2, .string S3, .string S4] 9))] (w1.alloc (.cells #[.int .i64 C.a, .int .i64 C.b, .int .i64 C.c, .int .i64 C.d, .int .i64 E] 38)) := by
    have h0 := Mild.Bks.closed _ _ HC.out hb
    have h := Mild.Bks.closed _ _ h0 ((Below.refl w1.heap.size w1).alloc (Nat.le_refl _) (.cells #[.int .i64 C.a, .int .i64 C.b, .int .i64 C.c, .int .i64 C.d, .int .i64 E] 38))
    have hb := h.blocks
    simp only [List.forall_mem_cons, List.not_mem_nil, false_imp_iff, implies_true, and_true] at hb
    refine ⟨h.below, h.big, ?_⟩
    simp only [List.forall_mem_cons, List.not_mem_nil, false_imp_iff, implies_true, and_true]
    exact ⟨Mild.alloc_at _ _, hb⟩
  clear HC cL hb
  refine texts14 w _ HT.out w1.heap.size L S0 S1 S2 S3 S4 S3 C E HWY.out 3 (by omega) rfl hC4 _ _ _ _ _ _ _ _ _ _ _ _ _ _ _ _ _ _ _ _ _ _ _ _ _ _ _ _ _ _ _ _ _ _ _ _ _ _ _ _ _ _ _ _ _ _ _ _ _ _ _ _ _ _ _ _ _ _ _ _ _ _ _ _ _ _ _ _ _ _ _ _ _ _ _ _ _ _ _ _ _ _ _ _ _ _ _ _ _ _ _ _ _ _ _ _ _ _ _ _ _ _ _ _ _ _ _ _ _ _ _ _ _ _ _ _ _ _ _ _ _ _ _ _ _ _ _ _ _ ?_
  clear hC4
  intro j101 j102 j103 j104 j105 j106 j107 j108 j109 j110 j111 j112 j113 j114 j115 j116 j117 j118 j119 j120 j121 j122 j123 j124 j125 j126 j127 j128 W4 hC
  have HC := Lib.hid hC; clear hC HCE HWY
  go_wp2
  rw [rounds_succ]
  have hb := HC.out.blocks
  simp only [List.forall_mem_cons, List.not_mem_nil, false_imp_iff, implies_true, and_true] at hb
  have cL := Mild.cell_of_block hb
  clear hb
  obtain ⟨C, E, hce, hway⟩ := ways S4
  have HCE := Lib.hid hce
  have HWY := Lib.hid hway
  clear hce hway
  go_upto_region 14 with (go_at_call 13; refine (parsed_ce _ HS.out.2.2.2.2 C E HCE _ (HT.out.below HC.out.below)).mono ?_; rintro e w1 ⟨rfl, hb⟩)
  have hC4 : Mild.Bks w.heap.size w [(w1.heap.size, .cells #[.int .i64 C.a, .int .i64 C.b, .int .i64 C.c, .int .i64 C.d, .int .i64 E] 38), (L, (.cells #[.string S0, .string S1, .string S2, .string S3, .string S4] 9))] (w1.alloc (.cells #[.int .i64 C.a, .int .i64 C.b, .int .i64 C.c, .int .i64 C.d, .int .i64 E] 38)) := by
    have h0 := Mild.Bks.closed _ _ HC.out hb
    have h := Mild.Bks.closed _ _ h0 ((Below.refl w1.heap.size w1).alloc (Nat.le_refl _) (.cells #[.int .i64 C.a, .int .i64 C.b, .int .i64 C.c, .int .i64 C.d, .int .i64 E] 38))
    have hb := h.blocks
    simp only [List.forall_mem_cons, List.not_mem_nil, false_imp_iff, implies_true, and_true] at hb
    refine ⟨h.below, h.big, ?_⟩
    simp only [List.forall_mem_cons, List.not_mem_nil, false_imp_iff, implies_true, and_true]
    exact ⟨Mild.alloc_at _ _, hb⟩
  clear HC cL hb
  refine texts14 w _ HT.out w1.heap.size L S0 S1 S2 S3 S4 S4 C E HWY.out 4 (by omega) rfl hC4 _ _ _ _ _ _ _ _ _ _ _ _ _ _ _ _ _ _ _ _ _ _ _ _ _ _ _ _ _ _ _ _ _ _ _ _ _ _ _ _ _ _ _ _ _ _ _ _ _ _ _ _ _ _ _ _ _ _ _ _ _ _ _ _ _ _ _ _ _ _ _ _ _ _ _ _ _ _ _ _ _ _ _ _ _ _ _ _ _ _ _ _ _ _ _ _ _ _ _ _ _ _ _ _ _ _ _ _ _ _ _ _ _ _ _ _ _ _ _ _ _ _ _ _ _ _ _ _ _ ?_
  clear hC4
  intro j101 j102 j103 j104 j105 j106 j107 j108 j109 j110 j111 j112 j113 j114 j115 j116 j117 j118 j119 j120 j121 j122 j123 j124 j125 j126 j127 j128 W4 hC
  have HC := Lib.hid hC; clear hC HCE HWY
  go_wp2
  rw [rounds_succ]
  go_wp2
  go_ret
  exact ⟨rfl, HC.out.below⟩
end Go.Proofs.YtajccjbigcdkbaaDoor
