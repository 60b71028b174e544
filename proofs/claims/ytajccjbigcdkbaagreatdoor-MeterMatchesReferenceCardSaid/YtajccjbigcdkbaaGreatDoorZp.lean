/- The reference's Report: a whole line. -/
import Derived.Test.YtajccjbigcdkbaaGreatDoorZo
-- USEBDN
set_option linter.unusedSimpArgs false
set_option linter.unusedVariables false
namespace Go.Proofs.YtajccjbigcdkbaaGreatDoor
open Go.ChangeShapes Go.WideShapes Go.ChangeAt Go.RowKit
theorem acc_size {a : ByteArray} {i m : Nat} {n : Int} {x : ByteArray} (h1 : (x.size : Int) ≤ n) (h2 : n ≤ 1000) (ha : a.size ≤ m) : (a ++ cellM i n x).size ≤ m + 1002 := by
  have := cell_size i n x h1
  rw [ByteArray.size_append]; omega

set_option maxRecDepth 100000 in
set_option maxHeartbeats 8000000 in
theorem rout7 (w0 W : World) (tb nr tcap : Nat) (tv : Value) (rows : List (List ByteArray)) (vs : List Value) (U O : Nat) (ns : List Int) (hns : ns.length = 5) (acc : ByteArray) (hC : OW w0 tv rows vs U O (intsA ns) acc W) (hacc : acc.size ≤ 9000000) (htv : tv = .slice (some ⟨tb, 0, none⟩) nr tcap) (k : Nat) (hk : k < nr) (r : List ByteArray) (hr : rows[k]? = some r) (hf : Fits ns r)
    (j0 j1 j2 j3 j4 j6 j8 j9 j12 j13 j14 j15 j16 j17 j18 j19 j20 j21 j22 j23 j24 j25 j26 j27 j28 j29 j30 j31 j32 j33 j34 j35 j36 j37 j38 j39 j40 j41 j42 j43 j44 j45 j46 j47 j48 j49 j50 j51 j52 j53 j54 j55 j56 j57 j58 j59 j60 j61 j62 j63 j64 j65 j66 j67 j68 j69 j70 j71 j72 j73 j74 j75 j76 j77 j78 j79 j80 j81 j82 j83 j84 j85 j86 j87 j88 j89 j90 j91 j92 j93 j94 j95 j96 j97 j98 j99 j100 j101 j102 j103 j104 j105 j106 j107 j108 j109 j110 j111 j112 j113 j114 j115 j116 j117 j118 j119 j120 j121 j122 j123 j124 j125 j126 j127 j128 j129 j130 j131 j132 j133 j134 j135 j136 j137 j138 j139 j140 j141 j142 j143 j144 j145 j146 j147 j148 j149 j150 j151 j152 j153 j154 j155 j156 j157 j158 j159 j160 j161 j162 j163 j164 j165 j166 : Value) (Q0 : Exit → Act → World → Prop)
    (h0 : ∀ j12 j108 j109 j110 j111 j112 j113 j114 j115 j116 j117 j118 j119 j120 j121 j122 j123 j124 j125 j126 j127 j128 j129 j130 j131 j132 j133 j134 j135 j136 j137 j138 j139 j140 j141 j142 j143 j144 j145 j146 j147 j148 j149 j150 j151 j152 j153 j154 j155 j156 j157 j158 j159 j160 j161 j162 j163 j164 j165 W', OW w0 tv rows vs U O (intsA ns) (acc ++ lineM ns r) W' → Q0 .normal { tmps := #[j0, j1, j2, j3, j4, .slice (some ⟨tb, 0, none⟩) nr tcap, j6, .slice (some ⟨U, 0, none⟩) 5 5, j8, j9, .pointer (some ⟨O, 0, none⟩), .int .i64 k, j12, j13, j14, j15, j16, j17, j18, j19, j20, j21, j22, j23, j24, j25, j26, j27, j28, j29, j30, j31, j32, j33, j34, j35, j36, j37, j38, j39, j40, j41, j42, j43, j44, j45, j46, j47, j48, j49, j50, j51, j52, j53, j54, j55, j56, j57, j58, j59, j60, j61, j62, j63, j64, j65, j66, j67, j68, j69, j70, j71, j72, j73, j74, j75, j76, j77, j78, j79, j80, j81, j82, j83, j84, j85, j86, j87, j88, j89, j90, j91, j92, j93, j94, j95, j96, j97, j98, j99, j100, j101, j102, j103, j104, j105, j106, j107, j108, j109, j110, j111, j112, j113, j114, j115, j116, j117, j118, j119, j120, j121, j122, j123, j124, j125, j126, j127, j128, j129, j130, j131, j132, j133, j134, j135, j136, j137, j138, j139, j140, j141, j142, j143, j144, j145, j146, j147, j148, j149, j150, j151, j152, j153, j154, j155, j156, j157, j158, j159, j160, j161, j162, j163, j164, j165, j166], defers := [] } W') :
    (navC [1, 1, 1, 1, 1, 1, 1, 1, 1, 0, 1, 1, 1, 1, 0] (Tryz.f20.body.getD .skip)).wp Tryz.prog Q0 { tmps := #[j0, j1, j2, j3, j4, .slice (some ⟨tb, 0, none⟩) nr tcap, j6, .slice (some ⟨U, 0, none⟩) 5 5, j8, j9, .pointer (some ⟨O, 0, none⟩), .int .i64 k, j12, j13, j14, j15, j16, j17, j18, j19, j20, j21, j22, j23, j24, j25, j26, j27, j28, j29, j30, j31, j32, j33, j34, j35, j36, j37, j38, j39, j40, j41, j42, j43, j44, j45, j46, j47, j48, j49, j50, j51, j52, j53, j54, j55, j56, j57, j58, j59, j60, j61, j62, j63, j64, j65, j66, j67, j68, j69, j70, j71, j72, j73, j74, j75, j76, j77, j78, j79, j80, j81, j82, j83, j84, j85, j86, j87, j88, j89, j90, j91, j92, j93, j94, j95, j96, j97, j98, j99, j100, j101, j102, j103, j104, j105, j106, j107, j108, j109, j110, j111, j112, j113, j114, j115, j116, j117, j118, j119, j120, j121, j122, j123, j124, j125, j126, j127, j128, j129, j130, j131, j132, j133, j134, j135, j136, j137, j138, j139, j140, j141, j142, j143, j144, j145, j146, j147, j148, j149, j150, j151, j152, j153, j154, j155, j156, j157, j158, j159, j160, j161, j162, j163, j164, j165, j166], defers := [] } W := by
  conv => arg 2; whnf
  have H0 := Lib.hid h0; clear h0
  obtain ⟨g, cap, hv, hcap, _, _⟩ := hC.tc.slice hr
  obtain ⟨h5, _⟩ := hC.tc.row k r hr
  obtain ⟨n0, n1, n2, n3, n4, rfl⟩ := five hns
  obtain ⟨x0, x1, x2, x3, x4, rfl⟩ := five h5
  have f0 := hf 0 n0 x0 rfl rfl
  have f1 := hf 1 n1 x1 rfl rfl
  have f2 := hf 2 n2 x2 rfl rfl
  have f3 := hf 3 n3 x3 rfl rfl
  have f4 := hf 4 n4 x4 rfl rfl
  have HFF := Lib.hid (And.intro f0 (And.intro f1 (And.intro f2 (And.intro f3 f4))))
  clear f0 f1 f2 f3 f4 hf
  have HV := Lib.hid hv; clear hv hns h5
  have HR := Lib.hid hr; clear hr
  have HC := Lib.hid hC; clear hC
  have HTV := Lib.hid htv; clear htv
  have HA0 := Lib.hid hacc; clear hacc
  go_upto_region 25 with (fail)
  refine rout25 w0 _ tb nr tcap tv _ vs U O _ acc HC.out (by have := HA0.out; omega) HTV.out k hk _ HR.out g cap HV.out n0 rfl x0 rfl HFF.out.1.1 HFF.out.1.2 _ _ _ _ _ _ _ _ _ _ _ _ _ _ _ _ _ _ _ _ _ _ _ _ _ _ _ _ _ _ _ _ _ _ _ _ _ _ _ _ _ _ _ _ _ _ _ _ _ _ _ _ _ _ _ _ _ _ _ _ _ _ _ _ _ _ _ _ _ _ _ _ _ _ _ _ _ _ _ _ _ _ _ _ _ _ _ _ _ _ _ _ _ _ _ _ _ _ _ _ _ _ _ _ _ _ _ _ _ _ _ _ _ _ _ _ _ _ _ _ _ _ _ _ _ _ _ _ _ _ _ _ _ _ _ _ _ _ _ _ _ _ _ _ _ _ _ _ _ _ _ _ _ _ _ _ _ _ _ _ _ _ _ _ ?_
  clear HC
  intro j108 j109 j110 j111 j112 j113 j114 j115 j116 j117 j118 j119 j120 j121 j122 j123 j124 j125 j126 j127 j128 j129 j130 W0 hC
  have hs := acc_size (i := 0) HFF.out.1.1 HFF.out.1.2 HA0.out
  obtain ⟨a1, e1⟩ : ∃ a, acc ++ cellM 0 n0 x0 = a := ⟨_, rfl⟩
  rw [e1] at hC hs
  have HE1 := Lib.hid e1; clear e1
  have HA1 := Lib.hid hs; clear hs
  have HC := Lib.hid hC; clear hC
  go_wp2
  refine wp_loop_rounds 5 ?_
  rw [rounds_succ]
  go_upto_region 29 with (fail)
  refine rout29 w0 _ tb nr tcap tv _ vs U O _ a1 HC.out (by have := HA1.out; omega) HTV.out k hk _ HR.out g cap HV.out 1 (by omega) (by omega) n1 rfl x1 rfl HFF.out.2.1.1 HFF.out.2.1.2 _ _ _ _ _ _ _ _ _ _ _ _ _ _ _ _ _ _ _ _ _ _ _ _ _ _ _ _ _ _ _ _ _ _ _ _ _ _ _ _ _ _ _ _ _ _ _ _ _ _ _ _ _ _ _ _ _ _ _ _ _ _ _ _ _ _ _ _ _ _ _ _ _ _ _ _ _ _ _ _ _ _ _ _ _ _ _ _ _ _ _ _ _ _ _ _ _ _ _ _ _ _ _ _ _ _ _ _ _ _ _ _ _ _ _ _ _ _ _ _ _ _ _ _ _ _ _ _ _ _ _ _ _ _ _ _ _ _ _ _ _ _ _ _ _ _ _ _ _ _ _ _ _ _ _ _ _ _ _ _ _ _ _ ?_
  clear HC
  intro j135 j136 j137 j138 j139 j140 j141 j142 j143 j144 j145 j146 j147 j148 j149 j150 j151 j152 j153 j154 j155 j156 j157 j158 j159 j160 j161 W1 hC
  have hs := acc_size (i := 1) HFF.out.2.1.1 HFF.out.2.1.2 HA1.out
  obtain ⟨a2, e1⟩ : ∃ a, a1 ++ cellM 1 n1 x1 = a := ⟨_, rfl⟩
  rw [e1] at hC hs
  have HE2 := Lib.hid e1; clear e1
  have HA2 := Lib.hid hs; clear hs
  have HC := Lib.hid hC; clear hC
  go_wp2
  rw [rounds_succ]
  go_upto_region 29 with (fail)
  refine rout29 w0 _ tb nr tcap tv _ vs U O _ a2 HC.out (by have := HA2.out; omega) HTV.out k hk _ HR.out g cap HV.out 2 (by omega) (by omega) n2 rfl x2 rfl HFF.out.2.2.1.1 HFF.out.2.2.1.2 _ _ _ _ _ _ _ _ _ _ _ _ _ _ _ _ _ _ _ _ _ _ _ _ _ _ _ _ _ _ _ _ _ _ _ _ _ _ _ _ _ _ _ _ _ _ _ _ _ _ _ _ _ _ _ _ _ _ _ _ _ _ _ _ _ _ _ _ _ _ _ _ _ _ _ _ _ _ _ _ _ _ _ _ _ _ _ _ _ _ _ _ _ _ _ _ _ _ _ _ _ _ _ _ _ _ _ _ _ _ _ _ _ _ _ _ _ _ _ _ _ _ _ _ _ _ _ _ _ _ _ _ _ _ _ _ _ _ _ _ _ _ _ _ _ _ _ _ _ _ _ _ _ _ _ _ _ _ _ _ _ _ _ ?_
  clear HC
  intro j135 j136 j137 j138 j139 j140 j141 j142 j143 j144 j145 j146 j147 j148 j149 j150 j151 j152 j153 j154 j155 j156 j157 j158 j159 j160 j161 W2 hC
  have hs := acc_size (i := 2) HFF.out.2.2.1.1 HFF.out.2.2.1.2 HA2.out
  obtain ⟨a3, e1⟩ : ∃ a, a2 ++ cellM 2 n2 x2 = a := ⟨_, rfl⟩
  rw [e1] at hC hs
  have HE3 := Lib.hid e1; clear e1
  have HA3 := Lib.hid hs; clear hs
  have HC := Lib.hid hC; clear hC
  go_wp2
  rw [rounds_succ]
  go_upto_region 29 with (fail)
  refine rout29 w0 _ tb nr tcap tv _ vs U O _ a3 HC.out (by have := HA3.out; omega) HTV.out k hk _ HR.out g cap HV.out 3 (by omega) (by omega) n3 rfl x3 rfl HFF.out.2.2.2.1.1 HFF.out.2.2.2.1.2 _ _ _ _ _ _ _ _ _ _ _ _ _ _ _ _ _ _ _ _ _ _ _ _ _ _ _ _ _ _ _ _ _ _ _ _ _ _ _ _ _ _ _ _ _ _ _ _ _ _ _ _ _ _ _ _ _ _ _ _ _ _ _ _ _ _ _ _ _ _ _ _ _ _ _ _ _ _ _ _ _ _ _ _ _ _ _ _ _ _ _ _ _ _ _ _ _ _ _ _ _ _ _ _ _ _ _ _ _ _ _ _ _ _ _ _ _ _ _ _ _ _ _ _ _ _ _ _ _ _ _ _ _ _ _ _ _ _ _ _ _ _ _ _ _ _ _ _ _ _ _ _ _ _ _ _ _ _ _ _ _ _ _ ?_
  clear HC
  intro j135 j136 j137 j138 j139 j140 j141 j142 j143 j144 j145 j146 j147 j148 j149 j150 j151 j152 j153 j154 j155 j156 j157 j158 j159 j160 j161 W3 hC
  have hs := acc_size (i := 3) HFF.out.2.2.2.1.1 HFF.out.2.2.2.1.2 HA3.out
  obtain ⟨a4, e1⟩ : ∃ a, a3 ++ cellM 3 n3 x3 = a := ⟨_, rfl⟩
  rw [e1] at hC hs
  have HE4 := Lib.hid e1; clear e1
  have HA4 := Lib.hid hs; clear hs
  have HC := Lib.hid hC; clear hC
  go_wp2
  rw [rounds_succ]
  go_upto_region 29 with (fail)
  refine rout29 w0 _ tb nr tcap tv _ vs U O _ a4 HC.out (by have := HA4.out; omega) HTV.out k hk _ HR.out g cap HV.out 4 (by omega) (by omega) n4 rfl x4 rfl HFF.out.2.2.2.2.1 HFF.out.2.2.2.2.2 _ _ _ _ _ _ _ _ _ _ _ _ _ _ _ _ _ _ _ _ _ _ _ _ _ _ _ _ _ _ _ _ _ _ _ _ _ _ _ _ _ _ _ _ _ _ _ _ _ _ _ _ _ _ _ _ _ _ _ _ _ _ _ _ _ _ _ _ _ _ _ _ _ _ _ _ _ _ _ _ _ _ _ _ _ _ _ _ _ _ _ _ _ _ _ _ _ _ _ _ _ _ _ _ _ _ _ _ _ _ _ _ _ _ _ _ _ _ _ _ _ _ _ _ _ _ _ _ _ _ _ _ _ _ _ _ _ _ _ _ _ _ _ _ _ _ _ _ _ _ _ _ _ _ _ _ _ _ _ _ _ _ _ ?_
  clear HC
  intro j135 j136 j137 j138 j139 j140 j141 j142 j143 j144 j145 j146 j147 j148 j149 j150 j151 j152 j153 j154 j155 j156 j157 j158 j159 j160 j161 W4 hC
  have hs := acc_size (i := 4) HFF.out.2.2.2.2.1 HFF.out.2.2.2.2.2 HA4.out
  obtain ⟨a5, e1⟩ : ∃ a, a4 ++ cellM 4 n4 x4 = a := ⟨_, rfl⟩
  rw [e1] at hC hs
  have HE5 := Lib.hid e1; clear e1
  have HA5 := Lib.hid hs; clear hs
  have HC := Lib.hid hC; clear hC
  have hz : ¬ 9223372036854775807 < a5.size + 1 := by have := HA5.out; omega
  have fO := Mild.free_of_block HC.out.out
  have cO := Mild.cell_of_block HC.out.out
  go_wp2
  rw [rounds_succ]
  go_wp2
  refine H0.out _ _ _ _ _ _ _ _ _ _ _ _ _ _ _ _ _ _ _ _ _ _ _ _ _ _ _ _ _ _ _ _ _ _ _ _ _ _ _ _ _ _ _ _ _ _ _ _ _ _ _ _ _ _ _ _ _ _ _ _ ?_
  have hfin : a5 ++ ⟨#[10]⟩ = acc ++ lineM [n0, n1, n2, n3, n4] [x0, x1, x2, x3, x4] := by
    rw [← HE5.out, ← HE4.out, ← HE3.out, ← HE2.out, ← HE1.out]
    refine bytes_inj ?_
    simp [lineM, lineL, ByteArray.data_append]
  rw [← hfin]
  exact HC.out.set _
end Go.Proofs.YtajccjbigcdkbaaGreatDoor
