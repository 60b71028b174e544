/- The reference's Report: the widths. -/
import Derived.Test.YtajccjbigcdkbaaGreatDoorZm
import Derived.Test.YtajccjbigcdkbaaGreatDoorMt
-- USEBDN
set_option linter.unusedSimpArgs false
set_option linter.unusedVariables false
namespace Go.Proofs.YtajccjbigcdkbaaGreatDoor
open Go.ChangeShapes Go.WideShapes Go.ChangeAt Go.RowKit
theorem TC.word {w0 : World} {tv : Value} {rows : List (List ByteArray)} {vs : List Value} {W : World} (h : TC w0 tv rows vs W) {k : Nat} {r : List ByteArray} (hr : rows[k]? = some r) {g cap : Nat} (hv : vs[k]? = some (.slice (some ⟨g, 0, none⟩) 5 cap)) {j : Nat} {x : ByteArray} (hx : r[j]? = some x) : W.cell? ⟨g, j, none⟩ = some (.string x) := by
  obtain ⟨_, v, h1, h2⟩ := h.row k r hr
  rw [hv] at h1
  cases h1
  have := h2.cells (g := g) rfl j (.string x) (by rw [List.getElem?_map, hx]; rfl)
  cases j with
  | zero => exact this
  | succ j => simpa [Addr.add] using this
theorem TC.head {w0 : World} {tv : Value} {rows : List (List ByteArray)} {vs : List Value} {W : World} (h : TC w0 tv rows vs W) {k : Nat} {u : Value} (hv : vs[k]? = some u) {tb n tcap : Nat} (ht : tv = .slice (some ⟨tb, 0, none⟩) n tcap) : W.cell? ⟨tb, k, none⟩ = some u := by
  have := h.tab.cells (g := tb) (by rw [ht]; rfl) k u hv
  cases k with
  | zero => exact this
  | succ j => simpa [Addr.add] using this
/-- The table, and the widths so far. -/
structure WN (w0 : World) (tv : Value) (rows : List (List ByteArray)) (vs : List Value) (U : Nat) (ms : Array Value) (W : World) : Prop where
  tc : TC w0 tv rows vs W
  wide : W.heap[U]? = some (.cells ms 3)
  hU : w0.heap.size ≤ U
theorem WN.closed {w0 : World} {tv : Value} {rows : List (List ByteArray)} {vs : List Value} {U : Nat} {ms : Array Value} {W W' : World} (h : WN w0 tv rows vs U ms W) (hb : Below W.heap.size W W') : WN w0 tv rows vs U ms W' :=
  ⟨h.tc.closed hb, by rw [hb.block U (Mild.lt_of_block h.wide)]; exact h.wide, h.hU⟩
theorem TC.set {w0 : World} {tv : Value} {rows : List (List ByteArray)} {vs : List Value} {U : Nat} {cs : Array Value} {e : TypeId} {W : World} (h : TC w0 tv rows vs W) (hU : w0.heap.size ≤ U) (hw : W.heap[U]? = some (.cells cs e)) (h1 : 25 ≠ e) (h2 : 9 ≠ e) (j : Nat) (x : Value) : TC w0 tv rows vs (W.setCell ⟨U, j, none⟩ x) := by
  refine ⟨h.below.setCell hU _, by simp [World.setCell]; exact h.big, own_set h.tab hw h1 x, fun k r hr => ?_⟩
  obtain ⟨h5, v, e1, e2⟩ := h.row k r hr
  exact ⟨h5, v, e1, own_set e2 hw h2 x⟩
theorem WN.set {w0 : World} {tv : Value} {rows : List (List ByteArray)} {vs : List Value} {U : Nat} {ms : Array Value} {W : World} (h : WN w0 tv rows vs U ms W) (j : Nat) (x : Value) : WN w0 tv rows vs U (ms.setIfInBounds j x) (W.setCell ⟨U, j, none⟩ x) :=
  ⟨h.tc.set h.hU h.wide (by decide) (by decide) j x, Joins.block_setCell h.wide _, h.hU⟩

set_option maxRecDepth 100000 in
set_option maxHeartbeats 4000000 in
theorem rwid20 (w0 W : World) (tb nr tcap : Nat) (tv : Value) (rows : List (List ByteArray)) (vs : List Value) (U : Nat) (ms : Array Value) (hC : WN w0 tv rows vs U ms W) (htv : tv = .slice (some ⟨tb, 0, none⟩) nr tcap) (k : Nat) (hk : k < nr) (r : List ByteArray) (hr : rows[k]? = some r) (g cap : Nat) (hv : vs[k]? = some (.slice (some ⟨g, 0, none⟩) 5 cap)) (j : Nat) (hj : j < 5) (m : Int) (hm : ms[j]? = some (.int .i64 m)) (x : ByteArray) (hx : r[j]? = some x)
    (j0 j1 j2 j3 j4 j6 j10 j11 j12 j13 j14 j15 j16 j17 j18 j19 j20 j21 j22 j23 j24 j25 j26 j27 j28 j29 j30 j31 j32 j33 j34 j35 j36 j37 j38 j39 j40 j41 j42 j43 j44 j45 j46 j47 j48 j49 j50 j51 j52 j53 j54 j55 j56 j57 j58 j59 j60 j61 j62 j63 j64 j65 j66 j67 j68 j69 j70 j71 j72 j73 j74 j75 j76 j77 j78 j79 j80 j81 j82 j83 j84 j85 j86 j87 j88 j89 j90 j91 j92 j93 j94 j95 j96 j97 j98 j99 j100 j101 j102 j103 j104 j105 j106 j107 j108 j109 j110 j111 j112 j113 j114 j115 j116 j117 j118 j119 j120 j121 j122 j123 j124 j125 j126 j127 j128 j129 j130 j131 j132 j133 j134 j135 j136 j137 j138 j139 j140 j141 j142 j143 j144 j145 j146 j147 j148 j149 j150 j151 j152 j153 j154 j155 j156 j157 j158 j159 j160 j161 j162 j163 j164 j165 j166 : Value) (Q0 : Exit → Act → World → Prop)
    (h0 : ∀ j85 j86 j87 j88 j89 j90 j91 j92 j93 j94 j95 j96 j97 j98 j99 j100 W', WN w0 tv rows vs U (ms.setIfInBounds j (.int .i64 (max m x.size))) W' → Q0 .normal { tmps := #[j0, j1, j2, j3, j4, .slice (some ⟨tb, 0, none⟩) nr tcap, j6, .slice (some ⟨U, 0, none⟩) 5 5, .int .i64 k, .int .i64 j, j10, j11, j12, j13, j14, j15, j16, j17, j18, j19, j20, j21, j22, j23, j24, j25, j26, j27, j28, j29, j30, j31, j32, j33, j34, j35, j36, j37, j38, j39, j40, j41, j42, j43, j44, j45, j46, j47, j48, j49, j50, j51, j52, j53, j54, j55, j56, j57, j58, j59, j60, j61, j62, j63, j64, j65, j66, j67, j68, j69, j70, j71, j72, j73, j74, j75, j76, j77, j78, j79, j80, j81, j82, j83, j84, j85, j86, j87, j88, j89, j90, j91, j92, j93, j94, j95, j96, j97, j98, j99, j100, j101, j102, j103, j104, j105, j106, j107, j108, j109, j110, j111, j112, j113, j114, j115, j116, j117, j118, j119, j120, j121, j122, j123, j124, j125, j126, j127, j128, j129, j130, j131, j132, j133, j134, j135, j136, j137, j138, j139, j140, j141, j142, j143, j144, j145, j146, j147, j148, j149, j150, j151, j152, j153, j154, j155, j156, j157, j158, j159, j160, j161, j162, j163, j164, j165, j166], defers := [] } W') :
    (navC [1, 1, 1, 1, 1, 1, 1, 0, 1, 1, 1, 1, 0, 1, 1, 1, 1, 1, 0, 1] (Tryz.f20.body.getD .skip)).wp Tryz.prog Q0 { tmps := #[j0, j1, j2, j3, j4, .slice (some ⟨tb, 0, none⟩) nr tcap, j6, .slice (some ⟨U, 0, none⟩) 5 5, .int .i64 k, .int .i64 j, j10, j11, j12, j13, j14, j15, j16, j17, j18, j19, j20, j21, j22, j23, j24, j25, j26, j27, j28, j29, j30, j31, j32, j33, j34, j35, j36, j37, j38, j39, j40, j41, j42, j43, j44, j45, j46, j47, j48, j49, j50, j51, j52, j53, j54, j55, j56, j57, j58, j59, j60, j61, j62, j63, j64, j65, j66, j67, j68, j69, j70, j71, j72, j73, j74, j75, j76, j77, j78, j79, j80, j81, j82, j83, j84, j85, j86, j87, j88, j89, j90, j91, j92, j93, j94, j95, j96, j97, j98, j99, j100, j101, j102, j103, j104, j105, j106, j107, j108, j109, j110, j111, j112, j113, j114, j115, j116, j117, j118, j119, j120, j121, j122, j123, j124, j125, j126, j127, j128, j129, j130, j131, j132, j133, j134, j135, j136, j137, j138, j139, j140, j141, j142, j143, j144, j145, j146, j147, j148, j149, j150, j151, j152, j153, j154, j155, j156, j157, j158, j159, j160, j161, j162, j163, j164, j165, j166], defers := [] } W := by
  conv => arg 2; whnf
  have H0 := Lib.hid h0; clear h0
  have hki : (k : Int) < nr := by omega
  have hji : (j : Int) < 5 := by omega
  have HC := Lib.hid hC; clear hC
  have HF := Lib.hid (And.intro htv (And.intro hr (And.intro hv hx)))
  clear htv hr hv hx
  refine Mild.region_mild 15 [] (WN w0 tv rows vs U ms) (by kernel_rfl) 167 (by kernel_rfl) rfl (by simp) (fun _ _ h hb => h.closed hb) HC.out (by simp) ?H
  apply Exists.intro
  refine ⟨?HW, ?HT⟩
  case HW =>
    intro W hW
    have cU := (Mild.cell_of_block hW.wide j).trans hm
    have ch := hW.tc.head HF.out.2.2.1 HF.out.1
    have cx := hW.tc.word HF.out.2.1 HF.out.2.2.1 HF.out.2.2.2
    clear hW
    simp only [List.take_succ_cons, List.take_zero]
    iterate 15 (apply Mild.walkM_q rfl; go_wp2; refine ⟨rfl, rfl, Below.refl _ _, ?_⟩)
    exact Mild.walkM_end rfl
  case HT =>
    intro F w2 hC2 _ _
    simp only [List.drop_succ_cons, List.drop_zero, Mild.putAll, List.foldl_cons, List.foldl_nil, Mild.ptrTo, Act.put, List.setIfInBounds_toArray, List.set_cons_zero, List.set_cons_succ]
    have HC2 := Lib.hid hC2
    have fU := Mild.free_of_block hC2.wide
    have cU := (Mild.cell_of_block hC2.wide j).trans hm
    clear hC2
    go_wp2
    exact H0.out _ _ _ _ _ _ _ _ _ _ _ _ _ _ _ _ _ (HC2.out.set j _)
set_option maxRecDepth 100000 in
set_option maxHeartbeats 4000000 in
theorem rwid17 (w0 W : World) (tb nr tcap : Nat) (tv : Value) (rows : List (List ByteArray)) (vs : List Value) (U : Nat) (ms : List Int) (hms : ms.length = 5) (hC : WN w0 tv rows vs U (intsA ms) W) (htv : tv = .slice (some ⟨tb, 0, none⟩) nr tcap) (k : Nat) (hk : k < nr) (r : List ByteArray) (hr : rows[k]? = some r)
    (j0 j1 j2 j3 j4 j6 j9 j10 j11 j12 j13 j14 j15 j16 j17 j18 j19 j20 j21 j22 j23 j24 j25 j26 j27 j28 j29 j30 j31 j32 j33 j34 j35 j36 j37 j38 j39 j40 j41 j42 j43 j44 j45 j46 j47 j48 j49 j50 j51 j52 j53 j54 j55 j56 j57 j58 j59 j60 j61 j62 j63 j64 j65 j66 j67 j68 j69 j70 j71 j72 j73 j74 j75 j76 j77 j78 j79 j80 j81 j82 j83 j84 j85 j86 j87 j88 j89 j90 j91 j92 j93 j94 j95 j96 j97 j98 j99 j100 j101 j102 j103 j104 j105 j106 j107 j108 j109 j110 j111 j112 j113 j114 j115 j116 j117 j118 j119 j120 j121 j122 j123 j124 j125 j126 j127 j128 j129 j130 j131 j132 j133 j134 j135 j136 j137 j138 j139 j140 j141 j142 j143 j144 j145 j146 j147 j148 j149 j150 j151 j152 j153 j154 j155 j156 j157 j158 j159 j160 j161 j162 j163 j164 j165 j166 : Value) (Q0 : Exit → Act → World → Prop)
    (h0 : ∀ j9 j81 j82 j83 j84 j85 j86 j87 j88 j89 j90 j91 j92 j93 j94 j95 j96 j97 j98 j99 j100 W', WN w0 tv rows vs U (intsA (widR ms r)) W' → Q0 .normal { tmps := #[j0, j1, j2, j3, j4, .slice (some ⟨tb, 0, none⟩) nr tcap, j6, .slice (some ⟨U, 0, none⟩) 5 5, .int .i64 k, j9, j10, j11, j12, j13, j14, j15, j16, j17, j18, j19, j20, j21, j22, j23, j24, j25, j26, j27, j28, j29, j30, j31, j32, j33, j34, j35, j36, j37, j38, j39, j40, j41, j42, j43, j44, j45, j46, j47, j48, j49, j50, j51, j52, j53, j54, j55, j56, j57, j58, j59, j60, j61, j62, j63, j64, j65, j66, j67, j68, j69, j70, j71, j72, j73, j74, j75, j76, j77, j78, j79, j80, j81, j82, j83, j84, j85, j86, j87, j88, j89, j90, j91, j92, j93, j94, j95, j96, j97, j98, j99, j100, j101, j102, j103, j104, j105, j106, j107, j108, j109, j110, j111, j112, j113, j114, j115, j116, j117, j118, j119, j120, j121, j122, j123, j124, j125, j126, j127, j128, j129, j130, j131, j132, j133, j134, j135, j136, j137, j138, j139, j140, j141, j142, j143, j144, j145, j146, j147, j148, j149, j150, j151, j152, j153, j154, j155, j156, j157, j158, j159, j160, j161, j162, j163, j164, j165, j166], defers := [] } W') :
    (navC [1, 1, 1, 1, 1, 1, 1, 0, 1, 1, 1, 1, 0] (Tryz.f20.body.getD .skip)).wp Tryz.prog Q0 { tmps := #[j0, j1, j2, j3, j4, .slice (some ⟨tb, 0, none⟩) nr tcap, j6, .slice (some ⟨U, 0, none⟩) 5 5, .int .i64 k, j9, j10, j11, j12, j13, j14, j15, j16, j17, j18, j19, j20, j21, j22, j23, j24, j25, j26, j27, j28, j29, j30, j31, j32, j33, j34, j35, j36, j37, j38, j39, j40, j41, j42, j43, j44, j45, j46, j47, j48, j49, j50, j51, j52, j53, j54, j55, j56, j57, j58, j59, j60, j61, j62, j63, j64, j65, j66, j67, j68, j69, j70, j71, j72, j73, j74, j75, j76, j77, j78, j79, j80, j81, j82, j83, j84, j85, j86, j87, j88, j89, j90, j91, j92, j93, j94, j95, j96, j97, j98, j99, j100, j101, j102, j103, j104, j105, j106, j107, j108, j109, j110, j111, j112, j113, j114, j115, j116, j117, j118, j119, j120, j121, j122, j123, j124, j125, j126, j127, j128, j129, j130, j131, j132, j133, j134, j135, j136, j137, j138, j139, j140, j141, j142, j143, j144, j145, j146, j147, j148, j149, j150, j151, j152, j153, j154, j155, j156, j157, j158, j159, j160, j161, j162, j163, j164, j165, j166], defers := [] } W := by
  conv => arg 2; whnf
  have H0 := Lib.hid h0; clear h0
  obtain ⟨g, cap, hv, hcap, _, _⟩ := hC.tc.slice hr
  obtain ⟨h5, _⟩ := hC.tc.row k r hr
  obtain ⟨m0, m1, m2, m3, m4, rfl⟩ := five hms
  obtain ⟨x0, x1, x2, x3, x4, rfl⟩ := five h5
  have HV := Lib.hid hv; clear hv hms h5
  have HR := Lib.hid hr; clear hr
  have HC := Lib.hid hC; clear hC
  have HTV := Lib.hid htv; clear htv
  go_wp2
  refine wp_loop_rounds 6 ?_
  rw [rounds_succ]
  go_upto_region 20 with (fail)
  refine rwid20 w0 _ tb nr tcap tv _ vs U #[.int .i64 m0, .int .i64 m1, .int .i64 m2, .int .i64 m3, .int .i64 m4] HC.out HTV.out k hk _ HR.out g cap HV.out 0 (by omega) m0 rfl x0 rfl _ _ _ _ _ _ _ _ _ _ _ _ _ _ _ _ _ _ _ _ _ _ _ _ _ _ _ _ _ _ _ _ _ _ _ _ _ _ _ _ _ _ _ _ _ _ _ _ _ _ _ _ _ _ _ _ _ _ _ _ _ _ _ _ _ _ _ _ _ _ _ _ _ _ _ _ _ _ _ _ _ _ _ _ _ _ _ _ _ _ _ _ _ _ _ _ _ _ _ _ _ _ _ _ _ _ _ _ _ _ _ _ _ _ _ _ _ _ _ _ _ _ _ _ _ _ _ _ _ _ _ _ _ _ _ _ _ _ _ _ _ _ _ _ _ _ _ _ _ _ _ _ _ _ _ _ _ _ _ _ _ _ _ _ ?_
  intro j85 j86 j87 j88 j89 j90 j91 j92 j93 j94 j95 j96 j97 j98 j99 j100 W0 hC
  simp only [List.setIfInBounds_toArray, List.set_cons_zero, List.set_cons_succ] at hC
  clear HC
  have HC := Lib.hid hC; clear hC
  go_wp2
  rw [rounds_succ]
  go_upto_region 20 with (fail)
  refine rwid20 w0 _ tb nr tcap tv _ vs U #[.int .i64 (max m0 x0.size), .int .i64 m1, .int .i64 m2, .int .i64 m3, .int .i64 m4] HC.out HTV.out k hk _ HR.out g cap HV.out 1 (by omega) m1 rfl x1 rfl _ _ _ _ _ _ _ _ _ _ _ _ _ _ _ _ _ _ _ _ _ _ _ _ _ _ _ _ _ _ _ _ _ _ _ _ _ _ _ _ _ _ _ _ _ _ _ _ _ _ _ _ _ _ _ _ _ _ _ _ _ _ _ _ _ _ _ _ _ _ _ _ _ _ _ _ _ _ _ _ _ _ _ _ _ _ _ _ _ _ _ _ _ _ _ _ _ _ _ _ _ _ _ _ _ _ _ _ _ _ _ _ _ _ _ _ _ _ _ _ _ _ _ _ _ _ _ _ _ _ _ _ _ _ _ _ _ _ _ _ _ _ _ _ _ _ _ _ _ _ _ _ _ _ _ _ _ _ _ _ _ _ _ _ ?_
  intro j85 j86 j87 j88 j89 j90 j91 j92 j93 j94 j95 j96 j97 j98 j99 j100 W1 hC
  simp only [List.setIfInBounds_toArray, List.set_cons_zero, List.set_cons_succ] at hC
  clear HC
  have HC := Lib.hid hC; clear hC
  go_wp2
  rw [rounds_succ]
  go_upto_region 20 with (fail)
  refine rwid20 w0 _ tb nr tcap tv _ vs U #[.int .i64 (max m0 x0.size), .int .i64 (max m1 x1.size), .int .i64 m2, .int .i64 m3, .int .i64 m4] HC.out HTV.out k hk _ HR.out g cap HV.out 2 (by omega) m2 rfl x2 rfl _ _ _ _ _ _ _ _ _ _ _ _ _ _ _ _ _ _ _ _ _ _ _ _ _ _ _ _ _ _ _ _ _ _ _ _ _ _ _ _ _ _ _ _ _ _ _ _ _ _ _ _ _ _ _ _ _ _ _ _ _ _ _ _ _ _ _ _ _ _ _ _ _ _ _ _ _ _ _ _ _ _ _ _ _ _ _ _ _ _ _ _ _ _ _ _ _ _ _ _ _ _ _ _ _ _ _ _ _ _ _ _ _ _ _ _ _ _ _ _ _ _ _ _ _ _ _ _ _ _ _ _ _ _ _ _ _ _ _ _ _ _ _ _ _ _ _ _ _ _ _ _ _ _ _ _ _ _ _ _ _ _ _ _ ?_
  intro j85 j86 j87 j88 j89 j90 j91 j92 j93 j94 j95 j96 j97 j98 j99 j100 W2 hC
  simp only [List.setIfInBounds_toArray, List.set_cons_zero, List.set_cons_succ] at hC
  clear HC
  have HC := Lib.hid hC; clear hC
  go_wp2
  rw [rounds_succ]
  go_upto_region 20 with (fail)
  refine rwid20 w0 _ tb nr tcap tv _ vs U #[.int .i64 (max m0 x0.size), .int .i64 (max m1 x1.size), .int .i64 (max m2 x2.size), .int .i64 m3, .int .i64 m4] HC.out HTV.out k hk _ HR.out g cap HV.out 3 (by omega) m3 rfl x3 rfl _ _ _ _ _ _ _ _ _ _ _ _ _ _ _ _ _ _ _ _ _ _ _ _ _ _ _ _ _ _ _ _ _ _ _ _ _ _ _ _ _ _ _ _ _ _ _ _ _ _ _ _ _ _ _ _ _ _ _ _ _ _ _ _ _ _ _ _ _ _ _ _ _ _ _ _ _ _ _ _ _ _ _ _ _ _ _ _ _ _ _ _ _ _ _ _ _ _ _ _ _ _ _ _ _ _ _ _ _ _ _ _ _ _ _ _ _ _ _ _ _ _ _ _ _ _ _ _ _ _ _ _ _ _ _ _ _ _ _ _ _ _ _ _ _ _ _ _ _ _ _ _ _ _ _ _ _ _ _ _ _ _ _ _ ?_
  intro j85 j86 j87 j88 j89 j90 j91 j92 j93 j94 j95 j96 j97 j98 j99 j100 W3 hC
  simp only [List.setIfInBounds_toArray, List.set_cons_zero, List.set_cons_succ] at hC
  clear HC
  have HC := Lib.hid hC; clear hC
  go_wp2
  rw [rounds_succ]
  go_upto_region 20 with (fail)
  refine rwid20 w0 _ tb nr tcap tv _ vs U #[.int .i64 (max m0 x0.size), .int .i64 (max m1 x1.size), .int .i64 (max m2 x2.size), .int .i64 (max m3 x3.size), .int .i64 m4] HC.out HTV.out k hk _ HR.out g cap HV.out 4 (by omega) m4 rfl x4 rfl _ _ _ _ _ _ _ _ _ _ _ _ _ _ _ _ _ _ _ _ _ _ _ _ _ _ _ _ _ _ _ _ _ _ _ _ _ _ _ _ _ _ _ _ _ _ _ _ _ _ _ _ _ _ _ _ _ _ _ _ _ _ _ _ _ _ _ _ _ _ _ _ _ _ _ _ _ _ _ _ _ _ _ _ _ _ _ _ _ _ _ _ _ _ _ _ _ _ _ _ _ _ _ _ _ _ _ _ _ _ _ _ _ _ _ _ _ _ _ _ _ _ _ _ _ _ _ _ _ _ _ _ _ _ _ _ _ _ _ _ _ _ _ _ _ _ _ _ _ _ _ _ _ _ _ _ _ _ _ _ _ _ _ _ ?_
  intro j85 j86 j87 j88 j89 j90 j91 j92 j93 j94 j95 j96 j97 j98 j99 j100 W4 hC
  simp only [List.setIfInBounds_toArray, List.set_cons_zero, List.set_cons_succ] at hC
  clear HC
  have HC := Lib.hid hC; clear hC
  go_wp2
  rw [rounds_succ]
  go_wp2
  exact H0.out _ _ _ _ _ _ _ _ _ _ _ _ _ _ _ _ _ _ _ _ _ _ HC.out
end Go.Proofs.YtajccjbigcdkbaaGreatDoor
