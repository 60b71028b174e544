/- MeterTexts: the text of a cost. -/
import Derived.Test.YtajccjbigcdkbaaDoorRa
-- USEBDN
set_option linter.unusedSimpArgs false
set_option linter.unusedVariables false
namespace Go.Proofs.YtajccjbigcdkbaaDoor
open Go.ChangeShapes Go.WideShapes Go.ChangeAt Go.RowKit
theorem build38z (a b c d : Int) (w : World) : (Instr.build 38 #[(0, .agg #[.int .i64 a, .int .i64 b, .int .i64 c, .int .i64 d])]).run Tryd.prog w = .ok (.agg #[.int .i64 a, .int .i64 b, .int .i64 c, .int .i64 d, .int .i64 0]) w := by kernel_rfl
theorem text_size (c : Co) (h : plainB c = true) : (textM c).size < 400 ∧ 0 < (textM c).size := by
  have hp := plain_in' h
  have l0 := tx_len 0 (by omega) c.a ⟨by omega, by omega⟩
  have l1 := tx_len 1 (by omega) c.b ⟨by omega, by omega⟩
  have l2 := tx_len 2 (by omega) c.c ⟨by omega, by omega⟩
  have l3 := tx_len 3 (by omega) c.d ⟨by omega, by omega⟩
  have e : (textM c).size = (textM c).data.toList.length := by rw [Array.length_toList]; rfl
  rw [e, text_data]
  simp only [List.length_append, List.length_cons]
  omega
theorem bytes_ne {s t : ByteArray} (h : s ≠ t) : (s.toList == t.toList) = false := by
  rw [beq_eq_false_iff_ne]
  intro e
  rw [ByteArray.toList_eq, ByteArray.toList_eq] at e
  exact h (bytes_inj e)

set_option maxRecDepth 100000 in
set_option maxHeartbeats 4000000 in
theorem texts6e (w0 W : World) (ht : Tabs w0) (X Y A B : Nat) (a : Co) (p q r : Int) (ha : In40 a)  (hC : Mild.Bks w0.heap.size w0 [(A, .cells (coc a) 26), (B, .cells (coc a) 26), (Y, .cells #[.int .u8 p, .int .u8 q, .int .u8 r] 34)] W)
    (j0 j1 j4 j5 j9 j10 j11 j12 j13 j14 j15 j16 j17 j18 j19 j20 j21 j22 j23 j24 j25 j26 j27 j28 j29 j30 j31 j32 j33 j34 j35 j36 j37 j38 j39 j40 j41 j42 j43 j44 j45 j46 j47 j48 j49 j50 j51 j52 j53 j54 j55 j56 j57 j58 j59 j60 j61 j62 j63 j64 j65 j66 j67 j68 j69 j70 j71 j72 j73 j74 j75 j76 j77 j78 j79 j80 j81 j82 j83 j84 j85 j86 j87 j88 j89 j90 j91 j92 j93 j94 j95 j96 j97 j98 j99 j100 j101 j102 j103 j104 j105 j106 j107 j108 j109 j110 j111 j112 j113 j114 j115 j116 j117 j118 j119 j120 j121 j122 j123 j124 j125 j126 j127 j128 j129 j130 : Value) (Q0 : Exit → Act → World → Prop)
    (h0 : ∀ j24 j25 j26 j27 j28 j29 j30 j31 j32 j33 j34 j35 j36 j37 j38 j39 j40 j41 j42 W', Mild.Bks w0.heap.size w0 [(A, .cells (coc a) 26), (B, .cells (coc a) 26), (Y, .cells #[.int .u8 p, .int .u8 q, .int .u8 r] 34)] W' → Q0 .normal { tmps := #[j0, j1, pt X 0, pt Y 0, j4, j5, pt A 0, pt B 0, .string (textM a), j9, j10, j11, j12, j13, j14, j15, j16, j17, j18, j19, j20, j21, j22, j23, j24, j25, j26, j27, j28, j29, j30, j31, j32, j33, j34, j35, j36, j37, j38, j39, j40, j41, j42, .bool false, j44, j45, j46, j47, j48, j49, j50, j51, j52, j53, j54, j55, j56, j57, j58, j59, j60, j61, j62, j63, j64, j65, j66, j67, j68, j69, j70, j71, j72, j73, j74, j75, j76, j77, j78, j79, j80, j81, j82, j83, j84, j85, j86, j87, j88, j89, j90, j91, j92, j93, j94, j95, j96, j97, j98, j99, j100, j101, j102, j103, j104, j105, j106, j107, j108, j109, j110, j111, j112, j113, j114, j115, j116, j117, j118, j119, j120, j121, j122, j123, j124, j125, j126, j127, j128, j129, j130], defers := [] } W') :
    (navC [1, 1, 1, 1, 1, 0, 0] (Tryd.f4.body.getD .skip)).wp Tryd.prog Q0 { tmps := #[j0, j1, pt X 0, pt Y 0, j4, j5, pt A 0, pt B 0, .string (textM a), j9, j10, j11, j12, j13, j14, j15, j16, j17, j18, j19, j20, j21, j22, j23, j24, j25, j26, j27, j28, j29, j30, j31, j32, j33, j34, j35, j36, j37, j38, j39, j40, j41, j42, j43, j44, j45, j46, j47, j48, j49, j50, j51, j52, j53, j54, j55, j56, j57, j58, j59, j60, j61, j62, j63, j64, j65, j66, j67, j68, j69, j70, j71, j72, j73, j74, j75, j76, j77, j78, j79, j80, j81, j82, j83, j84, j85, j86, j87, j88, j89, j90, j91, j92, j93, j94, j95, j96, j97, j98, j99, j100, j101, j102, j103, j104, j105, j106, j107, j108, j109, j110, j111, j112, j113, j114, j115, j116, j117, j118, j119, j120, j121, j122, j123, j124, j125, j126, j127, j128, j129, j130], defers := [] } W := by
  conv => arg 2; whnf
  have H0 := Lib.hid h0; clear h0
  have HT := Lib.hid ht; clear ht
  have HA := Lib.hid ha; clear ha
  have hP := Lib.hid (parse_some (parse_text a (in40_plain HA.out)))
  have hz := text_size a (in40_plain HA.out)
  have hz1 : (textM a).size < 4294967281 := by omega
  have hz0 : ¬ (textM a).size = 0 := by omega
  have hz2 : ¬ ((textM a).size : Int) = 0 := by omega
  refine Mild.region_mild 19 [] (Mild.Bks w0.heap.size w0 [(A, .cells (coc a) 26), (B, .cells (coc a) 26), (Y, .cells #[.int .u8 p, .int .u8 q, .int .u8 r] 34)]) (by kernel_rfl) 131 (by kernel_rfl) rfl (by simp) Mild.Bks.closed hC (by simp) ?H
  apply Exists.intro
  refine ⟨?HW, ?HT⟩
  case HW =>
    intro W hW
    have hb := hW.blocks
    simp only [List.forall_mem_cons, List.not_mem_nil, false_imp_iff, implies_true, and_true] at hb
    obtain ⟨b0, b1, _⟩ := hb
    have c0 := Mild.cell_of_block b0
    clear b0
    have c1 := Mild.cell_of_block b1
    clear b1
    have HW := Lib.hid (HT.out.below hW.below)
    clear hW
    have hbu := build38z a.a a.b a.c a.d
    simp only [List.take_succ_cons, List.take_zero]
    apply Mild.walkM_q rfl
    go_wp2
    refine ⟨rfl, rfl, Below.refl _ _, ?_⟩
    apply Mild.walkM_q rfl
    go_wp2_with (go_at_call 13; refine (parsed_ce _ hz1 a 0 hP _ HW.out).mono ?_; rintro e w1 ⟨rfl, hb⟩)
    refine ⟨rfl, rfl, hb, ?_⟩
    apply Mild.walkM_q rfl
    go_wp2
    refine ⟨rfl, rfl, Below.refl _ _, ?_⟩
    apply Mild.walkM_q rfl
    go_wp2
    refine ⟨rfl, rfl, Below.refl _ _, ?_⟩
    apply Mild.walkM_q rfl
    go_wp2
    refine ⟨rfl, rfl, Below.refl _ _, ?_⟩
    apply Mild.walkM_q rfl
    go_wp2
    refine ⟨rfl, rfl, Below.refl _ _, ?_⟩
    apply Mild.walkM_q rfl
    go_wp2
    refine ⟨rfl, rfl, Below.refl _ _, ?_⟩
    apply Mild.walkM_q rfl
    go_wp2_with (go_at_call 12; refine (text_any a _ HW.out (in40_rng HA.out)).mono ?_; rintro e w1 ⟨rfl, hb⟩)
    refine ⟨rfl, rfl, hb, ?_⟩
    apply Mild.walkM_q rfl
    go_wp2
    refine ⟨rfl, rfl, Below.refl _ _, ?_⟩
    apply Mild.walkM_q rfl
    go_wp2
    refine ⟨rfl, rfl, Below.refl _ _, ?_⟩
    apply Mild.walkM_q rfl
    go_wp2
    refine ⟨rfl, rfl, Below.refl _ _, ?_⟩
    apply Mild.walkM_q rfl
    go_wp2
    refine ⟨rfl, rfl, Below.refl _ _, ?_⟩
    apply Mild.walkM_q rfl
    go_wp2
    refine ⟨rfl, rfl, Below.refl _ _, ?_⟩
    apply Mild.walkM_q rfl
    go_wp2
    refine ⟨rfl, rfl, Below.refl _ _, ?_⟩
    apply Mild.walkM_q rfl
    go_wp2
    refine ⟨rfl, rfl, Below.refl _ _, ?_⟩
    apply Mild.walkM_q rfl
    go_wp2
    refine ⟨rfl, rfl, Below.refl _ _, ?_⟩
    apply Mild.walkM_q rfl
    go_wp2
    refine ⟨rfl, rfl, Below.refl _ _, ?_⟩
    apply Mild.walkM_q rfl
    go_wp2
    refine ⟨rfl, rfl, Below.refl _ _, ?_⟩
    apply Mild.walkM_q rfl
    go_wp2
    refine ⟨rfl, rfl, Below.refl _ _, ?_⟩
    exact Mild.walkM_end rfl
  case HT =>
    intro F w2 hC2 _ _
    simp only [List.drop_succ_cons, List.drop_zero, Mild.putAll, List.foldl_cons, List.foldl_nil, Mild.ptrTo, Act.put, List.setIfInBounds_toArray, List.set_cons_zero, List.set_cons_succ]
    have HC2 := Lib.hid hC2; clear hC2
    go_wp2
    exact H0.out _ _ _ _ _ _ _ _ _ _ _ _ _ _ _ _ _ _ _ _ HC2.out
set_option maxRecDepth 100000 in
set_option maxHeartbeats 4000000 in
theorem texts6n0 (w0 W : World) (ht : Tabs w0) (X Y A B : Nat) (a b : Co) (p q r : Int) (ha : In40 a) (hb0 : In40 b)  (n0 : ¬ a.a = b.a) (hC : Mild.Bks w0.heap.size w0 [(A, .cells (coc a) 26), (B, .cells (coc b) 26), (Y, .cells #[.int .u8 p, .int .u8 q, .int .u8 r] 34)] W)
    (j0 j1 j4 j5 j9 j10 j11 j12 j13 j14 j15 j16 j17 j18 j19 j20 j21 j22 j23 j24 j25 j26 j27 j28 j29 j30 j31 j32 j33 j34 j35 j36 j37 j38 j39 j40 j41 j42 j43 j44 j45 j46 j47 j48 j49 j50 j51 j52 j53 j54 j55 j56 j57 j58 j59 j60 j61 j62 j63 j64 j65 j66 j67 j68 j69 j70 j71 j72 j73 j74 j75 j76 j77 j78 j79 j80 j81 j82 j83 j84 j85 j86 j87 j88 j89 j90 j91 j92 j93 j94 j95 j96 j97 j98 j99 j100 j101 j102 j103 j104 j105 j106 j107 j108 j109 j110 j111 j112 j113 j114 j115 j116 j117 j118 j119 j120 j121 j122 j123 j124 j125 j126 j127 j128 j129 j130 : Value) (Q0 : Exit → Act → World → Prop)
    (h0 : ∀ j24 j25 j26 j27 j28 j29 j30 j31 j32 j33 j34 j35 j36 j37 j38 j39 j40 j41 j42 W', Mild.Bks w0.heap.size w0 [(A, .cells (coc a) 26), (B, .cells (coc b) 26), (Y, .cells #[.int .u8 p, .int .u8 q, .int .u8 r] 34)] W' → Q0 .normal { tmps := #[j0, j1, pt X 0, pt Y 0, j4, j5, pt A 0, pt B 0, .string (textM a), j9, j10, j11, j12, j13, j14, j15, j16, j17, j18, j19, j20, j21, j22, j23, j24, j25, j26, j27, j28, j29, j30, j31, j32, j33, j34, j35, j36, j37, j38, j39, j40, j41, j42, .bool false, j44, j45, j46, j47, j48, j49, j50, j51, j52, j53, j54, j55, j56, j57, j58, j59, j60, j61, j62, j63, j64, j65, j66, j67, j68, j69, j70, j71, j72, j73, j74, j75, j76, j77, j78, j79, j80, j81, j82, j83, j84, j85, j86, j87, j88, j89, j90, j91, j92, j93, j94, j95, j96, j97, j98, j99, j100, j101, j102, j103, j104, j105, j106, j107, j108, j109, j110, j111, j112, j113, j114, j115, j116, j117, j118, j119, j120, j121, j122, j123, j124, j125, j126, j127, j128, j129, j130], defers := [] } W') :
    (navC [1, 1, 1, 1, 1, 0, 0] (Tryd.f4.body.getD .skip)).wp Tryd.prog Q0 { tmps := #[j0, j1, pt X 0, pt Y 0, j4, j5, pt A 0, pt B 0, .string (textM a), j9, j10, j11, j12, j13, j14, j15, j16, j17, j18, j19, j20, j21, j22, j23, j24, j25, j26, j27, j28, j29, j30, j31, j32, j33, j34, j35, j36, j37, j38, j39, j40, j41, j42, j43, j44, j45, j46, j47, j48, j49, j50, j51, j52, j53, j54, j55, j56, j57, j58, j59, j60, j61, j62, j63, j64, j65, j66, j67, j68, j69, j70, j71, j72, j73, j74, j75, j76, j77, j78, j79, j80, j81, j82, j83, j84, j85, j86, j87, j88, j89, j90, j91, j92, j93, j94, j95, j96, j97, j98, j99, j100, j101, j102, j103, j104, j105, j106, j107, j108, j109, j110, j111, j112, j113, j114, j115, j116, j117, j118, j119, j120, j121, j122, j123, j124, j125, j126, j127, j128, j129, j130], defers := [] } W := by
  conv => arg 2; whnf
  have H0 := Lib.hid h0; clear h0
  have HT := Lib.hid ht; clear ht
  have HA := Lib.hid ha; clear ha
  have hP := Lib.hid (parse_some (parse_text a (in40_plain HA.out)))
  have hz := text_size a (in40_plain HA.out)
  have hz1 : (textM a).size < 4294967281 := by omega
  have hz0 : ¬ (textM a).size = 0 := by omega
  have hz2 : ¬ ((textM a).size : Int) = 0 := by omega
  have HB := Lib.hid hb0; clear hb0
  have hne : textM b ≠ textM a := fun e => n0 (by rw [text_inj a b (in40_plain HA.out) (in40_plain HB.out) e.symm])
  have hns := bytes_ne hne
  clear hne
  refine Mild.region_mild 19 [] (Mild.Bks w0.heap.size w0 [(A, .cells (coc a) 26), (B, .cells (coc b) 26), (Y, .cells #[.int .u8 p, .int .u8 q, .int .u8 r] 34)]) (by kernel_rfl) 131 (by kernel_rfl) rfl (by simp) Mild.Bks.closed hC (by simp) ?H
  apply Exists.intro
  refine ⟨?HW, ?HT⟩
  case HW =>
    intro W hW
    have hb := hW.blocks
    simp only [List.forall_mem_cons, List.not_mem_nil, false_imp_iff, implies_true, and_true] at hb
    obtain ⟨b0, b1, _⟩ := hb
    have c0 := Mild.cell_of_block b0
    clear b0
    have c1 := Mild.cell_of_block b1
    clear b1
    have HW := Lib.hid (HT.out.below hW.below)
    clear hW
    have hbu := build38z a.a a.b a.c a.d
    simp only [List.take_succ_cons, List.take_zero]
    apply Mild.walkM_q rfl
    go_wp2
    refine ⟨rfl, rfl, Below.refl _ _, ?_⟩
    apply Mild.walkM_q rfl
    go_wp2_with (go_at_call 13; refine (parsed_ce _ hz1 a 0 hP _ HW.out).mono ?_; rintro e w1 ⟨rfl, hb⟩)
    refine ⟨rfl, rfl, hb, ?_⟩
    apply Mild.walkM_q rfl
    go_wp2
    refine ⟨rfl, rfl, Below.refl _ _, ?_⟩
    apply Mild.walkM_q rfl
    go_wp2
    refine ⟨rfl, rfl, Below.refl _ _, ?_⟩
    apply Mild.walkM_q rfl
    go_wp2
    refine ⟨rfl, rfl, Below.refl _ _, ?_⟩
    apply Mild.walkM_q rfl
    go_wp2
    refine ⟨rfl, rfl, Below.refl _ _, ?_⟩
    apply Mild.walkM_q rfl
    go_wp2
    refine ⟨rfl, rfl, Below.refl _ _, ?_⟩
    apply Mild.walkM_q rfl
    go_wp2_with (go_at_call 12; refine (text_any b _ HW.out (in40_rng HB.out)).mono ?_; rintro e w1 ⟨rfl, hb⟩)
    refine ⟨rfl, rfl, hb, ?_⟩
    apply Mild.walkM_q rfl
    go_wp2
    refine ⟨rfl, rfl, Below.refl _ _, ?_⟩
    apply Mild.walkM_q rfl
    go_wp2
    refine ⟨rfl, rfl, Below.refl _ _, ?_⟩
    apply Mild.walkM_q rfl
    go_wp2
    refine ⟨rfl, rfl, Below.refl _ _, ?_⟩
    apply Mild.walkM_q rfl
    go_wp2
    refine ⟨rfl, rfl, Below.refl _ _, ?_⟩
    apply Mild.walkM_q rfl
    go_wp2
    refine ⟨rfl, rfl, Below.refl _ _, ?_⟩
    apply Mild.walkM_q rfl
    go_wp2
    refine ⟨rfl, rfl, Below.refl _ _, ?_⟩
    apply Mild.walkM_q rfl
    go_wp2
    refine ⟨rfl, rfl, Below.refl _ _, ?_⟩
    apply Mild.walkM_q rfl
    go_wp2
    refine ⟨rfl, rfl, Below.refl _ _, ?_⟩
    apply Mild.walkM_q rfl
    go_wp2
    refine ⟨rfl, rfl, Below.refl _ _, ?_⟩
    apply Mild.walkM_q rfl
    go_wp2
    refine ⟨rfl, rfl, Below.refl _ _, ?_⟩
    apply Mild.walkM_q rfl
    go_wp2
    refine ⟨rfl, rfl, Below.refl _ _, ?_⟩
    exact Mild.walkM_end rfl
  case HT =>
    intro F w2 hC2 _ _
    simp only [List.drop_succ_cons, List.drop_zero, Mild.putAll, List.foldl_cons, List.foldl_nil, Mild.ptrTo, Act.put, List.setIfInBounds_toArray, List.set_cons_zero, List.set_cons_succ]
    have HC2 := Lib.hid hC2; clear hC2
    go_wp2
    exact H0.out _ _ _ _ _ _ _ _ _ _ _ _ _ _ _ _ _ _ _ _ HC2.out
set_option maxRecDepth 100000 in
set_option maxHeartbeats 4000000 in
theorem texts6n1 (w0 W : World) (ht : Tabs w0) (X Y A B : Nat) (a b : Co) (p q r : Int) (ha : In40 a) (hb0 : In40 b) (e0 : a.a = b.a) (n1 : ¬ a.b = b.b) (hC : Mild.Bks w0.heap.size w0 [(A, .cells (coc a) 26), (B, .cells (coc b) 26), (Y, .cells #[.int .u8 p, .int .u8 q, .int .u8 r] 34)] W)
    (j0 j1 j4 j5 j9 j10 j11 j12 j13 j14 j15 j16 j17 j18 j19 j20 j21 j22 j23 j24 j25 j26 j27 j28 j29 j30 j31 j32 j33 j34 j35 j36 j37 j38 j39 j40 j41 j42 j43 j44 j45 j46 j47 j48 j49 j50 j51 j52 j53 j54 j55 j56 j57 j58 j59 j60 j61 j62 j63 j64 j65 j66 j67 j68 j69 j70 j71 j72 j73 j74 j75 j76 j77 j78 j79 j80 j81 j82 j83 j84 j85 j86 j87 j88 j89 j90 j91 j92 j93 j94 j95 j96 j97 j98 j99 j100 j101 j102 j103 j104 j105 j106 j107 j108 j109 j110 j111 j112 j113 j114 j115 j116 j117 j118 j119 j120 j121 j122 j123 j124 j125 j126 j127 j128 j129 j130 : Value) (Q0 : Exit → Act → World → Prop)
    (h0 : ∀ j24 j25 j26 j27 j28 j29 j30 j31 j32 j33 j34 j35 j36 j37 j38 j39 j40 j41 j42 W', Mild.Bks w0.heap.size w0 [(A, .cells (coc a) 26), (B, .cells (coc b) 26), (Y, .cells #[.int .u8 p, .int .u8 q, .int .u8 r] 34)] W' → Q0 .normal { tmps := #[j0, j1, pt X 0, pt Y 0, j4, j5, pt A 0, pt B 0, .string (textM a), j9, j10, j11, j12, j13, j14, j15, j16, j17, j18, j19, j20, j21, j22, j23, j24, j25, j26, j27, j28, j29, j30, j31, j32, j33, j34, j35, j36, j37, j38, j39, j40, j41, j42, .bool false, j44, j45, j46, j47, j48, j49, j50, j51, j52, j53, j54, j55, j56, j57, j58, j59, j60, j61, j62, j63, j64, j65, j66, j67, j68, j69, j70, j71, j72, j73, j74, j75, j76, j77, j78, j79, j80, j81, j82, j83, j84, j85, j86, j87, j88, j89, j90, j91, j92, j93, j94, j95, j96, j97, j98, j99, j100, j101, j102, j103, j104, j105, j106, j107, j108, j109, j110, j111, j112, j113, j114, j115, j116, j117, j118, j119, j120, j121, j122, j123, j124, j125, j126, j127, j128, j129, j130], defers := [] } W') :
    (navC [1, 1, 1, 1, 1, 0, 0] (Tryd.f4.body.getD .skip)).wp Tryd.prog Q0 { tmps := #[j0, j1, pt X 0, pt Y 0, j4, j5, pt A 0, pt B 0, .string (textM a), j9, j10, j11, j12, j13, j14, j15, j16, j17, j18, j19, j20, j21, j22, j23, j24, j25, j26, j27, j28, j29, j30, j31, j32, j33, j34, j35, j36, j37, j38, j39, j40, j41, j42, j43, j44, j45, j46, j47, j48, j49, j50, j51, j52, j53, j54, j55, j56, j57, j58, j59, j60, j61, j62, j63, j64, j65, j66, j67, j68, j69, j70, j71, j72, j73, j74, j75, j76, j77, j78, j79, j80, j81, j82, j83, j84, j85, j86, j87, j88, j89, j90, j91, j92, j93, j94, j95, j96, j97, j98, j99, j100, j101, j102, j103, j104, j105, j106, j107, j108, j109, j110, j111, j112, j113, j114, j115, j116, j117, j118, j119, j120, j121, j122, j123, j124, j125, j126, j127, j128, j129, j130], defers := [] } W := by
  conv => arg 2; whnf
  have H0 := Lib.hid h0; clear h0
  have HT := Lib.hid ht; clear ht
  have HA := Lib.hid ha; clear ha
  have hP := Lib.hid (parse_some (parse_text a (in40_plain HA.out)))
  have hz := text_size a (in40_plain HA.out)
  have hz1 : (textM a).size < 4294967281 := by omega
  have hz0 : ¬ (textM a).size = 0 := by omega
  have hz2 : ¬ ((textM a).size : Int) = 0 := by omega
  have HB := Lib.hid hb0; clear hb0
  have hne : textM b ≠ textM a := fun e => n1 (by rw [text_inj a b (in40_plain HA.out) (in40_plain HB.out) e.symm])
  have hns := bytes_ne hne
  clear hne
  refine Mild.region_mild 19 [] (Mild.Bks w0.heap.size w0 [(A, .cells (coc a) 26), (B, .cells (coc b) 26), (Y, .cells #[.int .u8 p, .int .u8 q, .int .u8 r] 34)]) (by kernel_rfl) 131 (by kernel_rfl) rfl (by simp) Mild.Bks.closed hC (by simp) ?H
  apply Exists.intro
  refine ⟨?HW, ?HT⟩
  case HW =>
    intro W hW
    have hb := hW.blocks
    simp only [List.forall_mem_cons, List.not_mem_nil, false_imp_iff, implies_true, and_true] at hb
    obtain ⟨b0, b1, _⟩ := hb
    have c0 := Mild.cell_of_block b0
    clear b0
    have c1 := Mild.cell_of_block b1
    clear b1
    have HW := Lib.hid (HT.out.below hW.below)
    clear hW
    have hbu := build38z a.a a.b a.c a.d
    simp only [List.take_succ_cons, List.take_zero]
    apply Mild.walkM_q rfl
    go_wp2
    refine ⟨rfl, rfl, Below.refl _ _, ?_⟩
    apply Mild.walkM_q rfl
    go_wp2_with (go_at_call 13; refine (parsed_ce _ hz1 a 0 hP _ HW.out).mono ?_; rintro e w1 ⟨rfl, hb⟩)
    refine ⟨rfl, rfl, hb, ?_⟩
    apply Mild.walkM_q rfl
    go_wp2
    refine ⟨rfl, rfl, Below.refl _ _, ?_⟩
    apply Mild.walkM_q rfl
    go_wp2
    refine ⟨rfl, rfl, Below.refl _ _, ?_⟩
    apply Mild.walkM_q rfl
    go_wp2
    refine ⟨rfl, rfl, Below.refl _ _, ?_⟩
    apply Mild.walkM_q rfl
    go_wp2
    refine ⟨rfl, rfl, Below.refl _ _, ?_⟩
    apply Mild.walkM_q rfl
    go_wp2
    refine ⟨rfl, rfl, Below.refl _ _, ?_⟩
    apply Mild.walkM_q rfl
    go_wp2_with (go_at_call 12; refine (text_any b _ HW.out (in40_rng HB.out)).mono ?_; rintro e w1 ⟨rfl, hb⟩)
    refine ⟨rfl, rfl, hb, ?_⟩
    apply Mild.walkM_q rfl
    go_wp2
    refine ⟨rfl, rfl, Below.refl _ _, ?_⟩
    apply Mild.walkM_q rfl
    go_wp2
    refine ⟨rfl, rfl, Below.refl _ _, ?_⟩
    apply Mild.walkM_q rfl
    go_wp2
    refine ⟨rfl, rfl, Below.refl _ _, ?_⟩
    apply Mild.walkM_q rfl
    go_wp2
    refine ⟨rfl, rfl, Below.refl _ _, ?_⟩
    apply Mild.walkM_q rfl
    go_wp2
    refine ⟨rfl, rfl, Below.refl _ _, ?_⟩
    apply Mild.walkM_q rfl
    go_wp2
    refine ⟨rfl, rfl, Below.refl _ _, ?_⟩
    apply Mild.walkM_q rfl
    go_wp2
    refine ⟨rfl, rfl, Below.refl _ _, ?_⟩
    apply Mild.walkM_q rfl
    go_wp2
    refine ⟨rfl, rfl, Below.refl _ _, ?_⟩
    apply Mild.walkM_q rfl
    go_wp2
    refine ⟨rfl, rfl, Below.refl _ _, ?_⟩
    apply Mild.walkM_q rfl
    go_wp2
    refine ⟨rfl, rfl, Below.refl _ _, ?_⟩
    apply Mild.walkM_q rfl
    go_wp2
    refine ⟨rfl, rfl, Below.refl _ _, ?_⟩
    exact Mild.walkM_end rfl
  case HT =>
    intro F w2 hC2 _ _
    simp only [List.drop_succ_cons, List.drop_zero, Mild.putAll, List.foldl_cons, List.foldl_nil, Mild.ptrTo, Act.put, List.setIfInBounds_toArray, List.set_cons_zero, List.set_cons_succ]
    have HC2 := Lib.hid hC2; clear hC2
    go_wp2
    exact H0.out _ _ _ _ _ _ _ _ _ _ _ _ _ _ _ _ _ _ _ _ HC2.out
set_option maxRecDepth 100000 in
set_option maxHeartbeats 4000000 in
theorem texts6n2 (w0 W : World) (ht : Tabs w0) (X Y A B : Nat) (a b : Co) (p q r : Int) (ha : In40 a) (hb0 : In40 b) (e0 : a.a = b.a) (e1 : a.b = b.b) (n2 : ¬ a.c = b.c) (hC : Mild.Bks w0.heap.size w0 [(A, .cells (coc a) 26), (B, .cells (coc b) 26), (Y, .cells #[.int .u8 p, .int .u8 q, .int .u8 r] 34)] W)
    (j0 j1 j4 j5 j9 j10 j11 j12 j13 j14 j15 j16 j17 j18 j19 j20 j21 j22 j23 j24 j25 j26 j27 j28 j29 j30 j31 j32 j33 j34 j35 j36 j37 j38 j39 j40 j41 j42 j43 j44 j45 j46 j47 j48 j49 j50 j51 j52 j53 j54 j55 j56 j57 j58 j59 j60 j61 j62 j63 j64 j65 j66 j67 j68 j69 j70 j71 j72 j73 j74 j75 j76 j77 j78 j79 j80 j81 j82 j83 j84 j85 j86 j87 j88 j89 j90 j91 j92 j93 j94 j95 j96 j97 j98 j99 j100 j101 j102 j103 j104 j105 j106 j107 j108 j109 j110 j111 j112 j113 j114 j115 j116 j117 j118 j119 j120 j121 j122 j123 j124 j125 j126 j127 j128 j129 j130 : Value) (Q0 : Exit → Act → World → Prop)
    (h0 : ∀ j24 j25 j26 j27 j28 j29 j30 j31 j32 j33 j34 j35 j36 j37 j38 j39 j40 j41 j42 W', Mild.Bks w0.heap.size w0 [(A, .cells (coc a) 26), (B, .cells (coc b) 26), (Y, .cells #[.int .u8 p, .int .u8 q, .int .u8 r] 34)] W' → Q0 .normal { tmps := #[j0, j1, pt X 0, pt Y 0, j4, j5, pt A 0, pt B 0, .string (textM a), j9, j10, j11, j12, j13, j14, j15, j16, j17, j18, j19, j20, j21, j22, j23, j24, j25, j26, j27, j28, j29, j30, j31, j32, j33, j34, j35, j36, j37, j38, j39, j40, j41, j42, .bool false, j44, j45, j46, j47, j48, j49, j50, j51, j52, j53, j54, j55, j56, j57, j58, j59, j60, j61, j62, j63, j64, j65, j66, j67, j68, j69, j70, j71, j72, j73, j74, j75, j76, j77, j78, j79, j80, j81, j82, j83, j84, j85, j86, j87, j88, j89, j90, j91, j92, j93, j94, j95, j96, j97, j98, j99, j100, j101, j102, j103, j104, j105, j106, j107, j108, j109, j110, j111, j112, j113, j114, j115, j116, j117, j118, j119, j120, j121, j122, j123, j124, j125, j126, j127, j128, j129, j130], defers := [] } W') :
    (navC [1, 1, 1, 1, 1, 0, 0] (Tryd.f4.body.getD .skip)).wp Tryd.prog Q0 { tmps := #[j0, j1, pt X 0, pt Y 0, j4, j5, pt A 0, pt B 0, .string (textM a), j9, j10, j11, j12, j13, j14, j15, j16, j17, j18, j19, j20, j21, j22, j23, j24, j25, j26, j27, j28, j29, j30, j31, j32, j33, j34, j35, j36, j37, j38, j39, j40, j41, j42, j43, j44, j45, j46, j47, j48, j49, j50, j51, j52, j53, j54, j55, j56, j57, j58, j59, j60, j61, j62, j63, j64, j65, j66, j67, j68, j69, j70, j71, j72, j73, j74, j75, j76, j77, j78, j79, j80, j81, j82, j83, j84, j85, j86, j87, j88, j89, j90, j91, j92, j93, j94, j95, j96, j97, j98, j99, j100, j101, j102, j103, j104, j105, j106, j107, j108, j109, j110, j111, j112, j113, j114, j115, j116, j117, j118, j119, j120, j121, j122, j123, j124, j125, j126, j127, j128, j129, j130], defers := [] } W := by
  conv => arg 2; whnf
  have H0 := Lib.hid h0; clear h0
  have HT := Lib.hid ht; clear ht
  have HA := Lib.hid ha; clear ha
  have hP := Lib.hid (parse_some (parse_text a (in40_plain HA.out)))
  have hz := text_size a (in40_plain HA.out)
  have hz1 : (textM a).size < 4294967281 := by omega
  have hz0 : ¬ (textM a).size = 0 := by omega
  have hz2 : ¬ ((textM a).size : Int) = 0 := by omega
  have HB := Lib.hid hb0; clear hb0
  have hne : textM b ≠ textM a := fun e => n2 (by rw [text_inj a b (in40_plain HA.out) (in40_plain HB.out) e.symm])
  have hns := bytes_ne hne
  clear hne
  refine Mild.region_mild 19 [] (Mild.Bks w0.heap.size w0 [(A, .cells (coc a) 26), (B, .cells (coc b) 26), (Y, .cells #[.int .u8 p, .int .u8 q, .int .u8 r] 34)]) (by kernel_rfl) 131 (by kernel_rfl) rfl (by simp) Mild.Bks.closed hC (by simp) ?H
  apply Exists.intro
  refine ⟨?HW, ?HT⟩
  case HW =>
    intro W hW
    have hb := hW.blocks
    simp only [List.forall_mem_cons, List.not_mem_nil, false_imp_iff, implies_true, and_true] at hb
    obtain ⟨b0, b1, _⟩ := hb
    have c0 := Mild.cell_of_block b0
    clear b0
    have c1 := Mild.cell_of_block b1
    clear b1
    have HW := Lib.hid (HT.out.below hW.below)
    clear hW
    have hbu := build38z a.a a.b a.c a.d
    simp only [List.take_succ_cons, List.take_zero]
    apply Mild.walkM_q rfl
    go_wp2
    refine ⟨rfl, rfl, Below.refl _ _, ?_⟩
    apply Mild.walkM_q rfl
    go_wp2_with (go_at_call 13; refine (parsed_ce _ hz1 a 0 hP _ HW.out).mono ?_; rintro e w1 ⟨rfl, hb⟩)
    refine ⟨rfl, rfl, hb, ?_⟩
    apply Mild.walkM_q rfl
    go_wp2
    refine ⟨rfl, rfl, Below.refl _ _, ?_⟩
    apply Mild.walkM_q rfl
    go_wp2
    refine ⟨rfl, rfl, Below.refl _ _, ?_⟩
    apply Mild.walkM_q rfl
    go_wp2
    refine ⟨rfl, rfl, Below.refl _ _, ?_⟩
    apply Mild.walkM_q rfl
    go_wp2
    refine ⟨rfl, rfl, Below.refl _ _, ?_⟩
    apply Mild.walkM_q rfl
    go_wp2
    refine ⟨rfl, rfl, Below.refl _ _, ?_⟩
    apply Mild.walkM_q rfl
    go_wp2_with (go_at_call 12; refine (text_any b _ HW.out (in40_rng HB.out)).mono ?_; rintro e w1 ⟨rfl, hb⟩)
    refine ⟨rfl, rfl, hb, ?_⟩
    apply Mild.walkM_q rfl
    go_wp2
    refine ⟨rfl, rfl, Below.refl _ _, ?_⟩
    apply Mild.walkM_q rfl
    go_wp2
    refine ⟨rfl, rfl, Below.refl _ _, ?_⟩
    apply Mild.walkM_q rfl
    go_wp2
    refine ⟨rfl, rfl, Below.refl _ _, ?_⟩
    apply Mild.walkM_q rfl
    go_wp2
    refine ⟨rfl, rfl, Below.refl _ _, ?_⟩
    apply Mild.walkM_q rfl
    go_wp2
    refine ⟨rfl, rfl, Below.refl _ _, ?_⟩
    apply Mild.walkM_q rfl
    go_wp2
    refine ⟨rfl, rfl, Below.refl _ _, ?_⟩
    apply Mild.walkM_q rfl
    go_wp2
    refine ⟨rfl, rfl, Below.refl _ _, ?_⟩
    apply Mild.walkM_q rfl
    go_wp2
    refine ⟨rfl, rfl, Below.refl _ _, ?_⟩
    apply Mild.walkM_q rfl
    go_wp2
    refine ⟨rfl, rfl, Below.refl _ _, ?_⟩
    apply Mild.walkM_q rfl
    go_wp2
    refine ⟨rfl, rfl, Below.refl _ _, ?_⟩
    apply Mild.walkM_q rfl
    go_wp2
    refine ⟨rfl, rfl, Below.refl _ _, ?_⟩
    exact Mild.walkM_end rfl
  case HT =>
    intro F w2 hC2 _ _
    simp only [List.drop_succ_cons, List.drop_zero, Mild.putAll, List.foldl_cons, List.foldl_nil, Mild.ptrTo, Act.put, List.setIfInBounds_toArray, List.set_cons_zero, List.set_cons_succ]
    have HC2 := Lib.hid hC2; clear hC2
    go_wp2
    exact H0.out _ _ _ _ _ _ _ _ _ _ _ _ _ _ _ _ _ _ _ _ HC2.out
set_option maxRecDepth 100000 in
set_option maxHeartbeats 4000000 in
theorem texts6n3 (w0 W : World) (ht : Tabs w0) (X Y A B : Nat) (a b : Co) (p q r : Int) (ha : In40 a) (hb0 : In40 b) (e0 : a.a = b.a) (e1 : a.b = b.b) (e2 : a.c = b.c) (n3 : ¬ a.d = b.d) (hC : Mild.Bks w0.heap.size w0 [(A, .cells (coc a) 26), (B, .cells (coc b) 26), (Y, .cells #[.int .u8 p, .int .u8 q, .int .u8 r] 34)] W)
    (j0 j1 j4 j5 j9 j10 j11 j12 j13 j14 j15 j16 j17 j18 j19 j20 j21 j22 j23 j24 j25 j26 j27 j28 j29 j30 j31 j32 j33 j34 j35 j36 j37 j38 j39 j40 j41 j42 j43 j44 j45 j46 j47 j48 j49 j50 j51 j52 j53 j54 j55 j56 j57 j58 j59 j60 j61 j62 j63 j64 j65 j66 j67 j68 j69 j70 j71 j72 j73 j74 j75 j76 j77 j78 j79 j80 j81 j82 j83 j84 j85 j86 j87 j88 j89 j90 j91 j92 j93 j94 j95 j96 j97 j98 j99 j100 j101 j102 j103 j104 j105 j106 j107 j108 j109 j110 j111 j112 j113 j114 j115 j116 j117 j118 j119 j120 j121 j122 j123 j124 j125 j126 j127 j128 j129 j130 : Value) (Q0 : Exit → Act → World → Prop)
    (h0 : ∀ j24 j25 j26 j27 j28 j29 j30 j31 j32 j33 j34 j35 j36 j37 j38 j39 j40 j41 j42 W', Mild.Bks w0.heap.size w0 [(A, .cells (coc a) 26), (B, .cells (coc b) 26), (Y, .cells #[.int .u8 p, .int .u8 q, .int .u8 r] 34)] W' → Q0 .normal { tmps := #[j0, j1, pt X 0, pt Y 0, j4, j5, pt A 0, pt B 0, .string (textM a), j9, j10, j11, j12, j13, j14, j15, j16, j17, j18, j19, j20, j21, j22, j23, j24, j25, j26, j27, j28, j29, j30, j31, j32, j33, j34, j35, j36, j37, j38, j39, j40, j41, j42, .bool false, j44, j45, j46, j47, j48, j49, j50, j51, j52, j53, j54, j55, j56, j57, j58, j59, j60, j61, j62, j63, j64, j65, j66, j67, j68, j69, j70, j71, j72, j73, j74, j75, j76, j77, j78, j79, j80, j81, j82, j83, j84, j85, j86, j87, j88, j89, j90, j91, j92, j93, j94, j95, j96, j97, j98, j99, j100, j101, j102, j103, j104, j105, j106, j107, j108, j109, j110, j111, j112, j113, j114, j115, j116, j117, j118, j119, j120, j121, j122, j123, j124, j125, j126, j127, j128, j129, j130], defers := [] } W') :
    (navC [1, 1, 1, 1, 1, 0, 0] (Tryd.f4.body.getD .skip)).wp Tryd.prog Q0 { tmps := #[j0, j1, pt X 0, pt Y 0, j4, j5, pt A 0, pt B 0, .string (textM a), j9, j10, j11, j12, j13, j14, j15, j16, j17, j18, j19, j20, j21, j22, j23, j24, j25, j26, j27, j28, j29, j30, j31, j32, j33, j34, j35, j36, j37, j38, j39, j40, j41, j42, j43, j44, j45, j46, j47, j48, j49, j50, j51, j52, j53, j54, j55, j56, j57, j58, j59, j60, j61, j62, j63, j64, j65, j66, j67, j68, j69, j70, j71, j72, j73, j74, j75, j76, j77, j78, j79, j80, j81, j82, j83, j84, j85, j86, j87, j88, j89, j90, j91, j92, j93, j94, j95, j96, j97, j98, j99, j100, j101, j102, j103, j104, j105, j106, j107, j108, j109, j110, j111, j112, j113, j114, j115, j116, j117, j118, j119, j120, j121, j122, j123, j124, j125, j126, j127, j128, j129, j130], defers := [] } W := by
  conv => arg 2; whnf
  have H0 := Lib.hid h0; clear h0
  have HT := Lib.hid ht; clear ht
  have HA := Lib.hid ha; clear ha
  have hP := Lib.hid (parse_some (parse_text a (in40_plain HA.out)))
  have hz := text_size a (in40_plain HA.out)
  have hz1 : (textM a).size < 4294967281 := by omega
  have hz0 : ¬ (textM a).size = 0 := by omega
  have hz2 : ¬ ((textM a).size : Int) = 0 := by omega
  have HB := Lib.hid hb0; clear hb0
  have hne : textM b ≠ textM a := fun e => n3 (by rw [text_inj a b (in40_plain HA.out) (in40_plain HB.out) e.symm])
  have hns := bytes_ne hne
  clear hne
  refine Mild.region_mild 19 [] (Mild.Bks w0.heap.size w0 [(A, .cells (coc a) 26), (B, .cells (coc b) 26), (Y, .cells #[.int .u8 p, .int .u8 q, .int .u8 r] 34)]) (by kernel_rfl) 131 (by kernel_rfl) rfl (by simp) Mild.Bks.closed hC (by simp) ?H
  apply Exists.intro
  refine ⟨?HW, ?HT⟩
  case HW =>
    intro W hW
    have hb := hW.blocks
    simp only [List.forall_mem_cons, List.not_mem_nil, false_imp_iff, implies_true, and_true] at hb
    obtain ⟨b0, b1, _⟩ := hb
    have c0 := Mild.cell_of_block b0
    clear b0
    have c1 := Mild.cell_of_block b1
    clear b1
    have HW := Lib.hid (HT.out.below hW.below)
    clear hW
    have hbu := build38z a.a a.b a.c a.d
    simp only [List.take_succ_cons, List.take_zero]
    apply Mild.walkM_q rfl
    go_wp2
    refine ⟨rfl, rfl, Below.refl _ _, ?_⟩
    apply Mild.walkM_q rfl
    go_wp2_with (go_at_call 13; refine (parsed_ce _ hz1 a 0 hP _ HW.out).mono ?_; rintro e w1 ⟨rfl, hb⟩)
    refine ⟨rfl, rfl, hb, ?_⟩
    apply Mild.walkM_q rfl
    go_wp2
    refine ⟨rfl, rfl, Below.refl _ _, ?_⟩
    apply Mild.walkM_q rfl
    go_wp2
    refine ⟨rfl, rfl, Below.refl _ _, ?_⟩
    apply Mild.walkM_q rfl
    go_wp2
    refine ⟨rfl, rfl, Below.refl _ _, ?_⟩
    apply Mild.walkM_q rfl
    go_wp2
    refine ⟨rfl, rfl, Below.refl _ _, ?_⟩
    apply Mild.walkM_q rfl
    go_wp2
    refine ⟨rfl, rfl, Below.refl _ _, ?_⟩
    apply Mild.walkM_q rfl
    go_wp2_with (go_at_call 12; refine (text_any b _ HW.out (in40_rng HB.out)).mono ?_; rintro e w1 ⟨rfl, hb⟩)
    refine ⟨rfl, rfl, hb, ?_⟩
    apply Mild.walkM_q rfl
    go_wp2
    refine ⟨rfl, rfl, Below.refl _ _, ?_⟩
    apply Mild.walkM_q rfl
    go_wp2
    refine ⟨rfl, rfl, Below.refl _ _, ?_⟩
    apply Mild.walkM_q rfl
    go_wp2
    refine ⟨rfl, rfl, Below.refl _ _, ?_⟩
    apply Mild.walkM_q rfl
    go_wp2
    refine ⟨rfl, rfl, Below.refl _ _, ?_⟩
    apply Mild.walkM_q rfl
    go_wp2
    refine ⟨rfl, rfl, Below.refl _ _, ?_⟩
    apply Mild.walkM_q rfl
    go_wp2
    refine ⟨rfl, rfl, Below.refl _ _, ?_⟩
    apply Mild.walkM_q rfl
    go_wp2
    refine ⟨rfl, rfl, Below.refl _ _, ?_⟩
    apply Mild.walkM_q rfl
    go_wp2
    refine ⟨rfl, rfl, Below.refl _ _, ?_⟩
    apply Mild.walkM_q rfl
    go_wp2
    refine ⟨rfl, rfl, Below.refl _ _, ?_⟩
    apply Mild.walkM_q rfl
    go_wp2
    refine ⟨rfl, rfl, Below.refl _ _, ?_⟩
    apply Mild.walkM_q rfl
    go_wp2
    refine ⟨rfl, rfl, Below.refl _ _, ?_⟩
    exact Mild.walkM_end rfl
  case HT =>
    intro F w2 hC2 _ _
    simp only [List.drop_succ_cons, List.drop_zero, Mild.putAll, List.foldl_cons, List.foldl_nil, Mild.ptrTo, Act.put, List.setIfInBounds_toArray, List.set_cons_zero, List.set_cons_succ]
    have HC2 := Lib.hid hC2; clear hC2
    go_wp2
    exact H0.out _ _ _ _ _ _ _ _ _ _ _ _ _ _ _ _ _ _ _ _ HC2.out
theorem texts6 (w0 W : World) (ht : Tabs w0) (X Y A B : Nat) (a b : Co) (p q r : Int) (ha : In40 a) (hb0 : In40 b) (hC : Mild.Bks w0.heap.size w0 [(A, .cells (coc a) 26), (B, .cells (coc b) 26), (Y, .cells #[.int .u8 p, .int .u8 q, .int .u8 r] 34)] W)
    (j0 j1 j4 j5 j9 j10 j11 j12 j13 j14 j15 j16 j17 j18 j19 j20 j21 j22 j23 j24 j25 j26 j27 j28 j29 j30 j31 j32 j33 j34 j35 j36 j37 j38 j39 j40 j41 j42 j43 j44 j45 j46 j47 j48 j49 j50 j51 j52 j53 j54 j55 j56 j57 j58 j59 j60 j61 j62 j63 j64 j65 j66 j67 j68 j69 j70 j71 j72 j73 j74 j75 j76 j77 j78 j79 j80 j81 j82 j83 j84 j85 j86 j87 j88 j89 j90 j91 j92 j93 j94 j95 j96 j97 j98 j99 j100 j101 j102 j103 j104 j105 j106 j107 j108 j109 j110 j111 j112 j113 j114 j115 j116 j117 j118 j119 j120 j121 j122 j123 j124 j125 j126 j127 j128 j129 j130 : Value) (Q0 : Exit → Act → World → Prop)
    (h0 : ∀ j24 j25 j26 j27 j28 j29 j30 j31 j32 j33 j34 j35 j36 j37 j38 j39 j40 j41 j42 W', Mild.Bks w0.heap.size w0 [(A, .cells (coc a) 26), (B, .cells (coc b) 26), (Y, .cells #[.int .u8 p, .int .u8 q, .int .u8 r] 34)] W' → Q0 .normal { tmps := #[j0, j1, pt X 0, pt Y 0, j4, j5, pt A 0, pt B 0, .string (textM a), j9, j10, j11, j12, j13, j14, j15, j16, j17, j18, j19, j20, j21, j22, j23, j24, j25, j26, j27, j28, j29, j30, j31, j32, j33, j34, j35, j36, j37, j38, j39, j40, j41, j42, .bool false, j44, j45, j46, j47, j48, j49, j50, j51, j52, j53, j54, j55, j56, j57, j58, j59, j60, j61, j62, j63, j64, j65, j66, j67, j68, j69, j70, j71, j72, j73, j74, j75, j76, j77, j78, j79, j80, j81, j82, j83, j84, j85, j86, j87, j88, j89, j90, j91, j92, j93, j94, j95, j96, j97, j98, j99, j100, j101, j102, j103, j104, j105, j106, j107, j108, j109, j110, j111, j112, j113, j114, j115, j116, j117, j118, j119, j120, j121, j122, j123, j124, j125, j126, j127, j128, j129, j130], defers := [] } W') :
    (navC [1, 1, 1, 1, 1, 0, 0] (Tryd.f4.body.getD .skip)).wp Tryd.prog Q0 { tmps := #[j0, j1, pt X 0, pt Y 0, j4, j5, pt A 0, pt B 0, .string (textM a), j9, j10, j11, j12, j13, j14, j15, j16, j17, j18, j19, j20, j21, j22, j23, j24, j25, j26, j27, j28, j29, j30, j31, j32, j33, j34, j35, j36, j37, j38, j39, j40, j41, j42, j43, j44, j45, j46, j47, j48, j49, j50, j51, j52, j53, j54, j55, j56, j57, j58, j59, j60, j61, j62, j63, j64, j65, j66, j67, j68, j69, j70, j71, j72, j73, j74, j75, j76, j77, j78, j79, j80, j81, j82, j83, j84, j85, j86, j87, j88, j89, j90, j91, j92, j93, j94, j95, j96, j97, j98, j99, j100, j101, j102, j103, j104, j105, j106, j107, j108, j109, j110, j111, j112, j113, j114, j115, j116, j117, j118, j119, j120, j121, j122, j123, j124, j125, j126, j127, j128, j129, j130], defers := [] } W := by
  by_cases e0 : a.a = b.a
  · by_cases e1 : a.b = b.b
    · by_cases e2 : a.c = b.c
      · by_cases e3 : a.d = b.d
        · obtain rfl : a = b := by cases a; cases b; simp_all
          exact texts6e w0 W ht X Y A B a p q r ha hC j0 j1 j4 j5 j9 j10 j11 j12 j13 j14 j15 j16 j17 j18 j19 j20 j21 j22 j23 j24 j25 j26 j27 j28 j29 j30 j31 j32 j33 j34 j35 j36 j37 j38 j39 j40 j41 j42 j43 j44 j45 j46 j47 j48 j49 j50 j51 j52 j53 j54 j55 j56 j57 j58 j59 j60 j61 j62 j63 j64 j65 j66 j67 j68 j69 j70 j71 j72 j73 j74 j75 j76 j77 j78 j79 j80 j81 j82 j83 j84 j85 j86 j87 j88 j89 j90 j91 j92 j93 j94 j95 j96 j97 j98 j99 j100 j101 j102 j103 j104 j105 j106 j107 j108 j109 j110 j111 j112 j113 j114 j115 j116 j117 j118 j119 j120 j121 j122 j123 j124 j125 j126 j127 j128 j129 j130 Q0 h0
        · exact texts6n3 w0 W ht X Y A B a b p q r ha hb0 e0 e1 e2 e3 hC j0 j1 j4 j5 j9 j10 j11 j12 j13 j14 j15 j16 j17 j18 j19 j20 j21 j22 j23 j24 j25 j26 j27 j28 j29 j30 j31 j32 j33 j34 j35 j36 j37 j38 j39 j40 j41 j42 j43 j44 j45 j46 j47 j48 j49 j50 j51 j52 j53 j54 j55 j56 j57 j58 j59 j60 j61 j62 j63 j64 j65 j66 j67 j68 j69 j70 j71 j72 j73 j74 j75 j76 j77 j78 j79 j80 j81 j82 j83 j84 j85 j86 j87 j88 j89 j90 j91 j92 j93 j94 j95 j96 j97 j98 j99 j100 j101 j102 j103 j104 j105 j106 j107 j108 j109 j110 j111 j112 j113 j114 j115 j116 j117 j118 j119 j120 j121 j122 j123 j124 j125 j126 j127 j128 j129 j130 Q0 h0
      · exact texts6n2 w0 W ht X Y A B a b p q r ha hb0 e0 e1 e2 hC j0 j1 j4 j5 j9 j10 j11 j12 j13 j14 j15 j16 j17 j18 j19 j20 j21 j22 j23 j24 j25 j26 j27 j28 j29 j30 j31 j32 j33 j34 j35 j36 j37 j38 j39 j40 j41 j42 j43 j44 j45 j46 j47 j48 j49 j50 j51 j52 j53 j54 j55 j56 j57 j58 j59 j60 j61 j62 j63 j64 j65 j66 j67 j68 j69 j70 j71 j72 j73 j74 j75 j76 j77 j78 j79 j80 j81 j82 j83 j84 j85 j86 j87 j88 j89 j90 j91 j92 j93 j94 j95 j96 j97 j98 j99 j100 j101 j102 j103 j104 j105 j106 j107 j108 j109 j110 j111 j112 j113 j114 j115 j116 j117 j118 j119 j120 j121 j122 j123 j124 j125 j126 j127 j128 j129 j130 Q0 h0
    · exact texts6n1 w0 W ht X Y A B a b p q r ha hb0 e0 e1 hC j0 j1 j4 j5 j9 j10 j11 j12 j13 j14 j15 j16 j17 j18 j19 j20 j21 j22 j23 j24 j25 j26 j27 j28 j29 j30 j31 j32 j33 j34 j35 j36 j37 j38 j39 j40 j41 j42 j43 j44 j45 j46 j47 j48 j49 j50 j51 j52 j53 j54 j55 j56 j57 j58 j59 j60 j61 j62 j63 j64 j65 j66 j67 j68 j69 j70 j71 j72 j73 j74 j75 j76 j77 j78 j79 j80 j81 j82 j83 j84 j85 j86 j87 j88 j89 j90 j91 j92 j93 j94 j95 j96 j97 j98 j99 j100 j101 j102 j103 j104 j105 j106 j107 j108 j109 j110 j111 j112 j113 j114 j115 j116 j117 j118 j119 j120 j121 j122 j123 j124 j125 j126 j127 j128 j129 j130 Q0 h0
  · exact texts6n0 w0 W ht X Y A B a b p q r ha hb0 e0 hC j0 j1 j4 j5 j9 j10 j11 j12 j13 j14 j15 j16 j17 j18 j19 j20 j21 j22 j23 j24 j25 j26 j27 j28 j29 j30 j31 j32 j33 j34 j35 j36 j37 j38 j39 j40 j41 j42 j43 j44 j45 j46 j47 j48 j49 j50 j51 j52 j53 j54 j55 j56 j57 j58 j59 j60 j61 j62 j63 j64 j65 j66 j67 j68 j69 j70 j71 j72 j73 j74 j75 j76 j77 j78 j79 j80 j81 j82 j83 j84 j85 j86 j87 j88 j89 j90 j91 j92 j93 j94 j95 j96 j97 j98 j99 j100 j101 j102 j103 j104 j105 j106 j107 j108 j109 j110 j111 j112 j113 j114 j115 j116 j117 j118 j119 j120 j121 j122 j123 j124 j125 j126 j127 j128 j129 j130 Q0 h0
end Go.Proofs.YtajccjbigcdkbaaDoor
