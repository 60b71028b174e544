/- The reference's Report: a line is written. -/
import Derived.Test.YtajccjbigcdkbaaGreatDoorZn
-- USEBDN
set_option linter.unusedSimpArgs false
set_option linter.unusedVariables false
namespace Go.Proofs.YtajccjbigcdkbaaGreatDoor
open Go.ChangeShapes Go.WideShapes Go.ChangeAt Go.RowKit
theorem repeat_one : ∀ k : Nat, Lib.repeatL [32] k = List.replicate k (32 : UInt8)
  | 0 => rfl
  | k + 1 => by
    have := repeat_one k
    simp_all [Lib.repeatL, List.replicate_succ]
theorem pad_blanks (n : Int) : padB n = blanksB n.toNat := by
  unfold padB blanksB; rw [repeat_one]
theorem blanks_int (n : Int) (h0 : 0 ≤ n) (h1 : n ≤ 100000) (w : World) : Calls Tryz.prog 37 #[.int .i64 n] w fun e w' => e = .returned (.string (padB n)) ∧ Below w.heap.size w w' := by
  have := blanks_any n.toNat (by omega) w
  rw [Int.toNat_of_nonneg h0] at this
  rw [pad_blanks]; exact this
/-- The table, the widths, what is written. -/
structure OW (w0 : World) (tv : Value) (rows : List (List ByteArray)) (vs : List Value) (U O : Nat) (ns : Array Value) (acc : ByteArray) (W : World) : Prop where
  tc : TC w0 tv rows vs W
  wide : W.heap[U]? = some (.cells ns 3)
  out : W.heap[O]? = some (.cells #[.string acc, .int .i64 0] 40)
  hU : w0.heap.size ≤ U
  hO : w0.heap.size ≤ O
theorem OW.closed {w0 : World} {tv : Value} {rows : List (List ByteArray)} {vs : List Value} {U O : Nat} {ns : Array Value} {acc : ByteArray} {W W' : World} (h : OW w0 tv rows vs U O ns acc W) (hb : Below W.heap.size W W') : OW w0 tv rows vs U O ns acc W' :=
  ⟨h.tc.closed hb, by rw [hb.block U (Mild.lt_of_block h.wide)]; exact h.wide, by rw [hb.block O (Mild.lt_of_block h.out)]; exact h.out, h.hU, h.hO⟩
theorem OW.set {w0 : World} {tv : Value} {rows : List (List ByteArray)} {vs : List Value} {U O : Nat} {ns : Array Value} {acc : ByteArray} {W : World} (h : OW w0 tv rows vs U O ns acc W) (acc' : ByteArray) : OW w0 tv rows vs U O ns acc' (W.setCell ⟨O, 0, none⟩ (.string acc')) := by
  have hne : U ≠ O := fun e => by
    have h1 := h.wide
    rw [e, h.out] at h1
    cases h1
  exact ⟨h.tc.set h.hO h.out (by decide) (by decide) 0 _, Mild.set_ne h.wide hne, Joins.block_setCell h.out _, h.hU, h.hO⟩

set_option maxRecDepth 100000 in
set_option maxHeartbeats 8000000 in
theorem rout25 (w0 W : World) (tb nr tcap : Nat) (tv : Value) (rows : List (List ByteArray)) (vs : List Value) (U O : Nat) (ns : Array Value) (acc : ByteArray) (hC : OW w0 tv rows vs U O ns acc W) (hacc : acc.size ≤ 10000000) (htv : tv = .slice (some ⟨tb, 0, none⟩) nr tcap) (k : Nat) (hk : k < nr) (r : List ByteArray) (hr : rows[k]? = some r) (g cap : Nat) (hv : vs[k]? = some (.slice (some ⟨g, 0, none⟩) 5 cap)) (n : Int) (hn : ns[0]? = some (.int .i64 n)) (x : ByteArray) (hx : r[0]? = some x) (hxn : (x.size : Int) ≤ n) (hn1 : n ≤ 1000)
    (j0 j1 j2 j3 j4 j6 j8 j9 j12 j13 j14 j15 j16 j17 j18 j19 j20 j21 j22 j23 j24 j25 j26 j27 j28 j29 j30 j31 j32 j33 j34 j35 j36 j37 j38 j39 j40 j41 j42 j43 j44 j45 j46 j47 j48 j49 j50 j51 j52 j53 j54 j55 j56 j57 j58 j59 j60 j61 j62 j63 j64 j65 j66 j67 j68 j69 j70 j71 j72 j73 j74 j75 j76 j77 j78 j79 j80 j81 j82 j83 j84 j85 j86 j87 j88 j89 j90 j91 j92 j93 j94 j95 j96 j97 j98 j99 j100 j101 j102 j103 j104 j105 j106 j107 j108 j109 j110 j111 j112 j113 j114 j115 j116 j117 j118 j119 j120 j121 j122 j123 j124 j125 j126 j127 j128 j129 j130 j131 j132 j133 j134 j135 j136 j137 j138 j139 j140 j141 j142 j143 j144 j145 j146 j147 j148 j149 j150 j151 j152 j153 j154 j155 j156 j157 j158 j159 j160 j161 j162 j163 j164 j165 j166 : Value) (Q0 : Exit → Act → World → Prop)
    (h0 : ∀ j108 j109 j110 j111 j112 j113 j114 j115 j116 j117 j118 j119 j120 j121 j122 j123 j124 j125 j126 j127 j128 j129 j130 W', OW w0 tv rows vs U O ns (acc ++ cellM 0 n x) W' → Q0 .normal { tmps := #[j0, j1, j2, j3, j4, .slice (some ⟨tb, 0, none⟩) nr tcap, j6, .slice (some ⟨U, 0, none⟩) 5 5, j8, j9, .pointer (some ⟨O, 0, none⟩), .int .i64 k, j12, j13, j14, j15, j16, j17, j18, j19, j20, j21, j22, j23, j24, j25, j26, j27, j28, j29, j30, j31, j32, j33, j34, j35, j36, j37, j38, j39, j40, j41, j42, j43, j44, j45, j46, j47, j48, j49, j50, j51, j52, j53, j54, j55, j56, j57, j58, j59, j60, j61, j62, j63, j64, j65, j66, j67, j68, j69, j70, j71, j72, j73, j74, j75, j76, j77, j78, j79, j80, j81, j82, j83, j84, j85, j86, j87, j88, j89, j90, j91, j92, j93, j94, j95, j96, j97, j98, j99, j100, j101, j102, j103, j104, j105, j106, j107, j108, j109, j110, j111, j112, j113, j114, j115, j116, j117, j118, j119, j120, j121, j122, j123, j124, j125, j126, j127, j128, j129, j130, j131, j132, j133, j134, j135, j136, j137, j138, j139, j140, j141, j142, j143, j144, j145, j146, j147, j148, j149, j150, j151, j152, j153, j154, j155, j156, j157, j158, j159, j160, j161, j162, j163, j164, j165, j166], defers := [] } W') :
    (navC [1, 1, 1, 1, 1, 1, 1, 1, 1, 0, 1, 1, 1, 1, 0, 1, 0] (Tryz.f20.body.getD .skip)).wp Tryz.prog Q0 { tmps := #[j0, j1, j2, j3, j4, .slice (some ⟨tb, 0, none⟩) nr tcap, j6, .slice (some ⟨U, 0, none⟩) 5 5, j8, j9, .pointer (some ⟨O, 0, none⟩), .int .i64 k, j12, j13, j14, j15, j16, j17, j18, j19, j20, j21, j22, j23, j24, j25, j26, j27, j28, j29, j30, j31, j32, j33, j34, j35, j36, j37, j38, j39, j40, j41, j42, j43, j44, j45, j46, j47, j48, j49, j50, j51, j52, j53, j54, j55, j56, j57, j58, j59, j60, j61, j62, j63, j64, j65, j66, j67, j68, j69, j70, j71, j72, j73, j74, j75, j76, j77, j78, j79, j80, j81, j82, j83, j84, j85, j86, j87, j88, j89, j90, j91, j92, j93, j94, j95, j96, j97, j98, j99, j100, j101, j102, j103, j104, j105, j106, j107, j108, j109, j110, j111, j112, j113, j114, j115, j116, j117, j118, j119, j120, j121, j122, j123, j124, j125, j126, j127, j128, j129, j130, j131, j132, j133, j134, j135, j136, j137, j138, j139, j140, j141, j142, j143, j144, j145, j146, j147, j148, j149, j150, j151, j152, j153, j154, j155, j156, j157, j158, j159, j160, j161, j162, j163, j164, j165, j166], defers := [] } W := by
  conv => arg 2; whnf
  have H0 := Lib.hid h0; clear h0
  have hki : (k : Int) < nr := by omega
  have hpz := pad_size (n - x.size)
  have hps : (padB (n - x.size)).size ≤ 1000 := by omega
  clear hpz
  have hxs : x.size ≤ 1000 := by omega
  have hp0 : 0 ≤ n - (x.size : Int) := by omega
  have hp1 : n - (x.size : Int) ≤ 100000 := by omega
  have hm : (acc ++ x) ++ padB (n - x.size) = acc ++ cellM 0 n x := by
    refine bytes_inj ?_
    simp [cellM, ByteArray.data_append]
  have HM := Lib.hid hm; clear hm
  have hz1 : ¬ 9223372036854775807 < acc.size + x.size := by omega
  have hz2 : ¬ 9223372036854775807 < acc.size + x.size + (padB (n - x.size)).size := by omega
  have HC := Lib.hid hC; clear hC
  have HF := Lib.hid (And.intro htv (And.intro hr (And.intro hv hx)))
  clear htv hr hv hx
  refine Mild.region_mild 22 [] (OW w0 tv rows vs U O ns acc) (by kernel_rfl) 167 (by kernel_rfl) rfl (by simp) (fun _ _ h hb => h.closed hb) HC.out (by simp) ?H
  apply Exists.intro
  refine ⟨?HW, ?HT⟩
  case HW =>
    intro W hW
    have cU := (Mild.cell_of_block hW.wide 0).trans hn
    have ch := hW.tc.head HF.out.2.2.1 HF.out.1
    have cx := hW.tc.word HF.out.2.1 HF.out.2.2.1 HF.out.2.2.2
    have cO := Mild.cell_of_block hW.out
    clear hW
    simp only [List.take_succ_cons, List.take_zero]
    iterate 20 (apply Mild.walkM_q rfl; go_wp2; refine ⟨rfl, rfl, Below.refl _ _, ?_⟩)
    apply Mild.walkM_q rfl
    go_wp2_with (go_at_call 37; refine (blanks_int _ hp0 hp1 _).mono ?_; rintro e w1 ⟨rfl, hb⟩)
    refine ⟨rfl, rfl, hb, ?_⟩
    iterate 1 (apply Mild.walkM_q rfl; go_wp2; refine ⟨rfl, rfl, Below.refl _ _, ?_⟩)
    exact Mild.walkM_end rfl
  case HT =>
    intro F w2 hC2 _ _
    simp only [List.drop_succ_cons, List.drop_zero, Mild.putAll, List.foldl_cons, List.foldl_nil, Mild.ptrTo, Act.put, List.setIfInBounds_toArray, List.set_cons_zero, List.set_cons_succ]
    have HC2 := Lib.hid hC2
    have fO := Mild.free_of_block hC2.out
    have cO := Mild.cell_of_block hC2.out
    clear hC2
    go_wp2
    refine H0.out _ _ _ _ _ _ _ _ _ _ _ _ _ _ _ _ _ _ _ _ _ _ _ _ ?_
    rw [← HM.out]
    exact HC2.out.set _
set_option maxRecDepth 100000 in
set_option maxHeartbeats 8000000 in
theorem rout29 (w0 W : World) (tb nr tcap : Nat) (tv : Value) (rows : List (List ByteArray)) (vs : List Value) (U O : Nat) (ns : Array Value) (acc : ByteArray) (hC : OW w0 tv rows vs U O ns acc W) (hacc : acc.size ≤ 10000000) (htv : tv = .slice (some ⟨tb, 0, none⟩) nr tcap) (k : Nat) (hk : k < nr) (r : List ByteArray) (hr : rows[k]? = some r) (g cap : Nat) (hv : vs[k]? = some (.slice (some ⟨g, 0, none⟩) 5 cap)) (j : Nat) (hj : j < 5) (hj0 : j ≠ 0) (n : Int) (hn : ns[j]? = some (.int .i64 n)) (x : ByteArray) (hx : r[j]? = some x) (hxn : (x.size : Int) ≤ n) (hn1 : n ≤ 1000)
    (j0 j1 j2 j3 j4 j6 j8 j9 j13 j14 j15 j16 j17 j18 j19 j20 j21 j22 j23 j24 j25 j26 j27 j28 j29 j30 j31 j32 j33 j34 j35 j36 j37 j38 j39 j40 j41 j42 j43 j44 j45 j46 j47 j48 j49 j50 j51 j52 j53 j54 j55 j56 j57 j58 j59 j60 j61 j62 j63 j64 j65 j66 j67 j68 j69 j70 j71 j72 j73 j74 j75 j76 j77 j78 j79 j80 j81 j82 j83 j84 j85 j86 j87 j88 j89 j90 j91 j92 j93 j94 j95 j96 j97 j98 j99 j100 j101 j102 j103 j104 j105 j106 j107 j108 j109 j110 j111 j112 j113 j114 j115 j116 j117 j118 j119 j120 j121 j122 j123 j124 j125 j126 j127 j128 j129 j130 j131 j132 j133 j134 j135 j136 j137 j138 j139 j140 j141 j142 j143 j144 j145 j146 j147 j148 j149 j150 j151 j152 j153 j154 j155 j156 j157 j158 j159 j160 j161 j162 j163 j164 j165 j166 : Value) (Q0 : Exit → Act → World → Prop)
    (h0 : ∀ j135 j136 j137 j138 j139 j140 j141 j142 j143 j144 j145 j146 j147 j148 j149 j150 j151 j152 j153 j154 j155 j156 j157 j158 j159 j160 j161 W', OW w0 tv rows vs U O ns (acc ++ cellM j n x) W' → Q0 .normal { tmps := #[j0, j1, j2, j3, j4, .slice (some ⟨tb, 0, none⟩) nr tcap, j6, .slice (some ⟨U, 0, none⟩) 5 5, j8, j9, .pointer (some ⟨O, 0, none⟩), .int .i64 k, .int .i64 j, j13, j14, j15, j16, j17, j18, j19, j20, j21, j22, j23, j24, j25, j26, j27, j28, j29, j30, j31, j32, j33, j34, j35, j36, j37, j38, j39, j40, j41, j42, j43, j44, j45, j46, j47, j48, j49, j50, j51, j52, j53, j54, j55, j56, j57, j58, j59, j60, j61, j62, j63, j64, j65, j66, j67, j68, j69, j70, j71, j72, j73, j74, j75, j76, j77, j78, j79, j80, j81, j82, j83, j84, j85, j86, j87, j88, j89, j90, j91, j92, j93, j94, j95, j96, j97, j98, j99, j100, j101, j102, j103, j104, j105, j106, j107, j108, j109, j110, j111, j112, j113, j114, j115, j116, j117, j118, j119, j120, j121, j122, j123, j124, j125, j126, j127, j128, j129, j130, j131, j132, j133, j134, j135, j136, j137, j138, j139, j140, j141, j142, j143, j144, j145, j146, j147, j148, j149, j150, j151, j152, j153, j154, j155, j156, j157, j158, j159, j160, j161, j162, j163, j164, j165, j166], defers := [] } W') :
    (navC [1, 1, 1, 1, 1, 1, 1, 1, 1, 0, 1, 1, 1, 1, 0, 1, 1, 0, 1, 1, 1, 1, 0, 1] (Tryz.f20.body.getD .skip)).wp Tryz.prog Q0 { tmps := #[j0, j1, j2, j3, j4, .slice (some ⟨tb, 0, none⟩) nr tcap, j6, .slice (some ⟨U, 0, none⟩) 5 5, j8, j9, .pointer (some ⟨O, 0, none⟩), .int .i64 k, .int .i64 j, j13, j14, j15, j16, j17, j18, j19, j20, j21, j22, j23, j24, j25, j26, j27, j28, j29, j30, j31, j32, j33, j34, j35, j36, j37, j38, j39, j40, j41, j42, j43, j44, j45, j46, j47, j48, j49, j50, j51, j52, j53, j54, j55, j56, j57, j58, j59, j60, j61, j62, j63, j64, j65, j66, j67, j68, j69, j70, j71, j72, j73, j74, j75, j76, j77, j78, j79, j80, j81, j82, j83, j84, j85, j86, j87, j88, j89, j90, j91, j92, j93, j94, j95, j96, j97, j98, j99, j100, j101, j102, j103, j104, j105, j106, j107, j108, j109, j110, j111, j112, j113, j114, j115, j116, j117, j118, j119, j120, j121, j122, j123, j124, j125, j126, j127, j128, j129, j130, j131, j132, j133, j134, j135, j136, j137, j138, j139, j140, j141, j142, j143, j144, j145, j146, j147, j148, j149, j150, j151, j152, j153, j154, j155, j156, j157, j158, j159, j160, j161, j162, j163, j164, j165, j166], defers := [] } W := by
  conv => arg 2; whnf
  have H0 := Lib.hid h0; clear h0
  have hki : (k : Int) < nr := by omega
  have hji : (j : Int) < 5 := by omega
  have hpz := pad_size (n - x.size)
  have hps : (padB (n - x.size)).size ≤ 1000 := by omega
  clear hpz
  have hxs : x.size ≤ 1000 := by omega
  have hp0 : 0 ≤ n - (x.size : Int) := by omega
  have hp1 : n - (x.size : Int) ≤ 100000 := by omega
  have hm : ((acc ++ ⟨#[32, 32]⟩) ++ padB (n - x.size)) ++ x = acc ++ cellM j n x := by
    refine bytes_inj ?_
    simp [cellM, ByteArray.data_append, hj0]
  have HM := Lib.hid hm; clear hm
  have hz0 : ¬ 9223372036854775807 < acc.size + 2 := by omega
  have hz1 : ¬ 9223372036854775807 < acc.size + 2 + (padB (n - x.size)).size := by omega
  have hz2 : ¬ 9223372036854775807 < acc.size + 2 + (padB (n - x.size)).size + x.size := by omega
  have HC := Lib.hid hC; clear hC
  have HF := Lib.hid (And.intro htv (And.intro hr (And.intro hv hx)))
  clear htv hr hv hx
  refine Mild.region_mild 26 [] (OW w0 tv rows vs U O ns acc) (by kernel_rfl) 167 (by kernel_rfl) rfl (by simp) (fun _ _ h hb => h.closed hb) HC.out (by simp) ?H
  apply Exists.intro
  refine ⟨?HW, ?HT⟩
  case HW =>
    intro W hW
    have cU := (Mild.cell_of_block hW.wide j).trans hn
    have ch := hW.tc.head HF.out.2.2.1 HF.out.1
    have cx := hW.tc.word HF.out.2.1 HF.out.2.2.1 HF.out.2.2.2
    have cO := Mild.cell_of_block hW.out
    clear hW
    simp only [List.take_succ_cons, List.take_zero]
    iterate 16 (apply Mild.walkM_q rfl; go_wp2; refine ⟨rfl, rfl, Below.refl _ _, ?_⟩)
    apply Mild.walkM_q rfl
    go_wp2_with (go_at_call 37; refine (blanks_int _ hp0 hp1 _).mono ?_; rintro e w1 ⟨rfl, hb⟩)
    refine ⟨rfl, rfl, hb, ?_⟩
    iterate 9 (apply Mild.walkM_q rfl; go_wp2; refine ⟨rfl, rfl, Below.refl _ _, ?_⟩)
    exact Mild.walkM_end rfl
  case HT =>
    intro F w2 hC2 _ _
    simp only [List.drop_succ_cons, List.drop_zero, Mild.putAll, List.foldl_cons, List.foldl_nil, Mild.ptrTo, Act.put, List.setIfInBounds_toArray, List.set_cons_zero, List.set_cons_succ]
    have HC2 := Lib.hid hC2
    have fO := Mild.free_of_block hC2.out
    have cO := Mild.cell_of_block hC2.out
    clear hC2
    go_wp2
    refine H0.out _ _ _ _ _ _ _ _ _ _ _ _ _ _ _ _ _ _ _ _ _ _ _ _ _ _ _ _ ?_
    rw [← HM.out]
    exact HC2.out.set _
end Go.Proofs.YtajccjbigcdkbaaGreatDoor
