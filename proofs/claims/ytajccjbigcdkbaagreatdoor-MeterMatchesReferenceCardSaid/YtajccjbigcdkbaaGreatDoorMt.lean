/- A report: the widths. -/
import Derived.Test.YtajccjbigcdkbaaGreatDoorMs
import Derived.Lib.MinMax
-- USEBDN
set_option linter.unusedSimpArgs false
set_option linter.unusedVariables false
namespace Go.Proofs.YtajccjbigcdkbaaGreatDoor
open Go.ChangeShapes Go.WideShapes Go.ChangeAt Go.RowKit
theorem own_set {W : World} {b s n : Nat} {e t : TypeId} {v : Value} {xs : List Value} (h : W.ownsRow b e s v n xs) {U j : Nat} {cs : Array Value} (hU : W.heap[U]? = some (.cells cs t)) (hne : e ≠ t) (x : Value) : (W.setCell ⟨U, j, none⟩ x).ownsRow b e s v n xs := by
  refine h.kept (row := some U) ⟨rfl, rfl, rfl, by simp [World.setCell], fun k _ hk => Below.heap_setCell _ _ _ _ (fun e => hk (by simp [e]))⟩ ?_
  rcases h.2 with ⟨rfl, _⟩ | ⟨g, cap, cur, rfl, _, hg, _⟩
  · exact .inl rfl
  · refine .inr fun e => ?_
    simp only [Value.ownBlock, Option.some.injEq] at e
    subst e
    rw [hg] at hU
    cases hU
    exact hne rfl
/-- The table, and the widths so far. -/
structure WD (w0 : World) (tv : Value) (rows : List (List ByteArray)) (vs : List Value) (B U : Nat) (ms : Array Value) (W : World) : Prop where
  tc : TC w0 tv rows vs W
  box : W.heap[B]? = some (.cells #[.slice (some ⟨U, 0, none⟩) 5 5] 63)
  wide : W.heap[U]? = some (.cells ms 3)
  hB : w0.heap.size ≤ B
  hU : w0.heap.size ≤ U
theorem WD.closed {w0 : World} {tv : Value} {rows : List (List ByteArray)} {vs : List Value} {B U : Nat} {ms : Array Value} {W W' : World} (h : WD w0 tv rows vs B U ms W) (hb : Below W.heap.size W W') : WD w0 tv rows vs B U ms W' :=
  ⟨h.tc.closed hb, by rw [hb.block B (Mild.lt_of_block h.box)]; exact h.box, by rw [hb.block U (Mild.lt_of_block h.wide)]; exact h.wide, h.hB, h.hU⟩
theorem WD.set {w0 : World} {tv : Value} {rows : List (List ByteArray)} {vs : List Value} {B U : Nat} {ms : Array Value} {W : World} (h : WD w0 tv rows vs B U ms W) (j : Nat) (x : Value) : WD w0 tv rows vs B U (ms.setIfInBounds j x) (W.setCell ⟨U, j, none⟩ x) := by
  have hne : B ≠ U := fun e => by
    have h1 := h.box
    rw [e, h.wide] at h1
    cases h1
  refine ⟨⟨h.tc.below.setCell h.hU _, by simp [World.setCell]; exact h.tc.big, own_set h.tc.tab h.wide (by decide) x, fun k r hr => ?_⟩, Mild.set_ne h.box hne, Joins.block_setCell h.wide _, h.hB, h.hU⟩
  obtain ⟨h5, v, h1, h2⟩ := h.tc.row k r hr
  exact ⟨h5, v, h1, own_set h2 h.wide (by decide) x⟩

set_option maxRecDepth 100000 in
set_option maxHeartbeats 2000000 in
theorem wid22 (w0 W : World) (tv : Value) (rows : List (List ByteArray)) (vs : List Value) (B U : Nat) (ms : Array Value) (hC : WD w0 tv rows vs B U ms W) (j : Nat) (hj : j < 5) (m : Int) (hm : ms[j]? = some (.int .i64 m)) (x : ByteArray) (g cap : Nat) (hcap : 5 ≤ cap) (cx : W.cell? ⟨g, j, none⟩ = some (.string x))
    (j0 j1 j2 j3 j4 j5 j6 j7 j8 j9 j10 j12 j13 j14 j15 j16 j17 j18 j19 j20 j21 j22 j23 j24 j25 j26 j27 j28 j29 j30 j31 j32 j33 j34 j35 j36 j37 j38 j39 j40 j41 j42 j43 j44 j45 j46 j47 j48 j49 j50 j51 j52 j53 j54 j55 j56 j57 j58 j59 j60 j61 j62 j63 j64 j65 j66 j67 j68 j69 j70 j71 j72 j73 j74 j75 j76 j77 j78 j79 j80 j81 j83 j85 j86 j87 j88 j89 j90 j91 j92 j93 j94 j95 j96 j97 j98 j99 j100 j101 j102 j103 j104 j105 j106 j107 j108 : Value) (Q0 : Exit → Act → World → Prop)
    (h0 : ∀ j14 j15 j86 j87 j88 j89 j90 j91 j92 j93 j94 j95 j96 j97 j98 W', WD w0 tv rows vs B U (ms.setIfInBounds j (.int .i64 (max m x.size))) W' → Q0 .normal { tmps := #[j0, j1, j2, j3, j4, j5, j6, j7, j8, j9, j10, pt B 0, j12, j13, j14, j15, j16, j17, j18, j19, j20, j21, j22, j23, j24, j25, j26, j27, j28, j29, j30, j31, j32, j33, j34, j35, j36, j37, j38, j39, j40, j41, j42, j43, j44, j45, j46, j47, j48, j49, j50, j51, j52, j53, j54, j55, j56, j57, j58, j59, j60, j61, j62, j63, j64, j65, j66, j67, j68, j69, j70, j71, j72, j73, j74, j75, j76, j77, j78, j79, j80, j81, .slice (some ⟨g, 0, none⟩) 5 cap, j83, .int .i64 j, j85, j86, j87, j88, j89, j90, j91, j92, j93, j94, j95, j96, j97, j98, j99, j100, j101, j102, j103, j104, j105, j106, j107, j108], defers := [] } W') :
    (navC [1, 1, 1, 1, 1, 1, 1, 1, 1, 0, 1, 1, 1, 1, 1, 0, 1, 1, 1, 1, 1, 1, 1, 0] (Tryz.f34.body.getD .skip)).wp Tryz.prog Q0 { tmps := #[j0, j1, j2, j3, j4, j5, j6, j7, j8, j9, j10, pt B 0, j12, j13, j14, j15, j16, j17, j18, j19, j20, j21, j22, j23, j24, j25, j26, j27, j28, j29, j30, j31, j32, j33, j34, j35, j36, j37, j38, j39, j40, j41, j42, j43, j44, j45, j46, j47, j48, j49, j50, j51, j52, j53, j54, j55, j56, j57, j58, j59, j60, j61, j62, j63, j64, j65, j66, j67, j68, j69, j70, j71, j72, j73, j74, j75, j76, j77, j78, j79, j80, j81, .slice (some ⟨g, 0, none⟩) 5 cap, j83, .int .i64 j, j85, j86, j87, j88, j89, j90, j91, j92, j93, j94, j95, j96, j97, j98, j99, j100, j101, j102, j103, j104, j105, j106, j107, j108], defers := [] } W := by
  conv => arg 2; whnf
  have H0 := Lib.hid h0; clear h0
  have HC := Lib.hid hC; clear hC
  go_upto_region 23 with (fail)
  refine Mild.region_mild 9 [] (WD w0 tv rows vs B U ms) (by kernel_rfl) 109 (by kernel_rfl) rfl (by simp) (fun _ _ h hb => h.closed hb) HC.out (by simp) ?H
  apply Exists.intro
  refine ⟨?HW, ?HT⟩
  case HW =>
    intro W hW
    have cB := Mild.cell_of_block hW.box
    have cU := (Mild.cell_of_block hW.wide j).trans hm
    clear hW
    simp only [List.take_succ_cons, List.take_zero]
    iterate 9 (apply Mild.walkM_q rfl; go_wp2; refine ⟨rfl, rfl, Below.refl _ _, ?_⟩)
    exact Mild.walkM_end rfl
  case HT =>
    intro F w2 hC2 _ _
    simp only [List.drop_succ_cons, List.drop_zero, Mild.putAll, List.foldl_cons, List.foldl_nil, Mild.ptrTo, Act.put, List.setIfInBounds_toArray, List.set_cons_zero, List.set_cons_succ]
    have HC2 := Lib.hid hC2
    have fU := Mild.free_of_block hC2.wide
    have cU := (Mild.cell_of_block hC2.wide j).trans hm
    clear hC2
    go_wp2
    exact H0.out _ _ _ _ _ _ _ _ _ _ _ _ _ _ _ _ (HC2.out.set j _)
theorem WD.word {w0 : World} {tv : Value} {rows : List (List ByteArray)} {vs : List Value} {B U : Nat} {ms : Array Value} {W : World} (h : WD w0 tv rows vs B U ms W) {k : Nat} {r : List ByteArray} (hr : rows[k]? = some r) {g cap : Nat} (hv : vs[k]? = some (.slice (some ⟨g, 0, none⟩) 5 cap)) {j : Nat} {x : ByteArray} (hx : r[j]? = some x) : W.cell? ⟨g, j, none⟩ = some (.string x) := by
  obtain ⟨_, v, h1, h2⟩ := h.tc.row k r hr
  rw [hv] at h1
  cases h1
  have := h2.cells (g := g) rfl j (.string x) (by rw [List.getElem?_map, hx]; rfl)
  cases j with
  | zero => exact this
  | succ j => simpa [Addr.add] using this
theorem WD.head {w0 : World} {tv : Value} {rows : List (List ByteArray)} {vs : List Value} {B U : Nat} {ms : Array Value} {W : World} (h : WD w0 tv rows vs B U ms W) {k : Nat} {u : Value} (hv : vs[k]? = some u) {tb n tcap : Nat} (ht : tv = .slice (some ⟨tb, 0, none⟩) n tcap) : W.cell? ⟨tb, k, none⟩ = some u := by
  have := h.tc.tab.cells (g := tb) (by rw [ht]; rfl) k u hv
  cases k with
  | zero => exact this
  | succ j => simpa [Addr.add] using this
theorem TC.slice {w0 : World} {tv : Value} {rows : List (List ByteArray)} {vs : List Value} {W : World} (h : TC w0 tv rows vs W) {k : Nat} {r : List ByteArray} (hr : rows[k]? = some r) : ∃ g cap, vs[k]? = some (.slice (some ⟨g, 0, none⟩) 5 cap) ∧ 5 ≤ cap ∧ w0.heap.size ≤ g ∧ g < W.heap.size := by
  obtain ⟨_, v, h1, h2⟩ := h.row k r hr
  obtain ⟨g, cap, rfl, h3, h4, h5, _⟩ := own_open h2
  exact ⟨g, cap, h1, h5, h3, h4⟩
/-- The widths with a row more. -/
def widR (ms : List Int) (r : List ByteArray) : List Int := List.zipWith (fun m x => max m (x.size : Int)) ms r
abbrev intsA (ms : List Int) : Array Value := (ms.map (Value.int .i64)).toArray

set_option maxRecDepth 100000 in
set_option maxHeartbeats 4000000 in
theorem wid19 (w0 W : World) (tb tcap : Nat) (rows : List (List ByteArray)) (vs : List Value) (B U : Nat) (ms : List Int) (hms : ms.length = 5) (hC : WD w0 (.slice (some ⟨tb, 0, none⟩) rows.length tcap) rows vs B U (intsA ms) W) (hrl : rows.length ≤ 2000) (htc : rows.length ≤ tcap) (k : Nat) (hk : k < rows.length) (r : List ByteArray) (hr : rows[k]? = some r)
    (j0 j1 j2 j3 j4 j5 j6 j7 j8 j9 j10 j12 j13 j14 j15 j16 j17 j18 j19 j20 j21 j22 j23 j24 j25 j26 j27 j28 j29 j30 j31 j32 j33 j34 j35 j36 j37 j38 j39 j40 j41 j42 j43 j44 j45 j46 j47 j48 j49 j50 j51 j52 j53 j54 j55 j56 j57 j58 j59 j60 j61 j62 j63 j64 j65 j66 j67 j68 j69 j70 j71 j72 j73 j74 j75 j79 j80 j81 j82 j83 j84 j85 j86 j87 j88 j89 j90 j91 j92 j93 j94 j95 j96 j97 j98 j99 j100 j101 j102 j103 j104 j105 j106 j107 j108 : Value) (Q0 : Exit → Act → World → Prop)
    (h0 : ∀ j13 j14 j15 j80 j81 j82 j83 j84 j85 j86 j87 j88 j89 j90 j91 j92 j93 j94 j95 j96 j97 j98 j99 W', WD w0 (.slice (some ⟨tb, 0, none⟩) rows.length tcap) rows vs B U (intsA (widR ms r)) W' → Q0 .normal { tmps := #[j0, j1, j2, j3, j4, j5, j6, j7, j8, j9, j10, .pointer (some ⟨B, 0, none⟩), j12, j13, j14, j15, j16, j17, j18, j19, j20, j21, j22, j23, j24, j25, j26, j27, j28, j29, j30, j31, j32, j33, j34, j35, j36, j37, j38, j39, j40, j41, j42, j43, j44, j45, j46, j47, j48, j49, j50, j51, j52, j53, j54, j55, j56, j57, j58, j59, j60, j61, j62, j63, j64, j65, j66, j67, j68, j69, j70, j71, j72, j73, j74, j75, .slice (some ⟨tb, 0, none⟩) rows.length tcap, .int .i64 rows.length, .int .i64 k, j79, j80, j81, j82, j83, j84, j85, j86, j87, j88, j89, j90, j91, j92, j93, j94, j95, j96, j97, j98, j99, j100, j101, j102, j103, j104, j105, j106, j107, j108], defers := [] } W') :
    (navC [1, 1, 1, 1, 1, 1, 1, 1, 1, 0, 1, 1, 1, 1, 1, 0] (Tryz.f34.body.getD .skip)).wp Tryz.prog Q0 { tmps := #[j0, j1, j2, j3, j4, j5, j6, j7, j8, j9, j10, .pointer (some ⟨B, 0, none⟩), j12, j13, j14, j15, j16, j17, j18, j19, j20, j21, j22, j23, j24, j25, j26, j27, j28, j29, j30, j31, j32, j33, j34, j35, j36, j37, j38, j39, j40, j41, j42, j43, j44, j45, j46, j47, j48, j49, j50, j51, j52, j53, j54, j55, j56, j57, j58, j59, j60, j61, j62, j63, j64, j65, j66, j67, j68, j69, j70, j71, j72, j73, j74, j75, .slice (some ⟨tb, 0, none⟩) rows.length tcap, .int .i64 rows.length, .int .i64 k, j79, j80, j81, j82, j83, j84, j85, j86, j87, j88, j89, j90, j91, j92, j93, j94, j95, j96, j97, j98, j99, j100, j101, j102, j103, j104, j105, j106, j107, j108], defers := [] } W := by
  conv => arg 2; whnf
  have H0 := Lib.hid h0; clear h0
  obtain ⟨g, cap, hv, hcap, _, _⟩ := hC.tc.slice hr
  obtain ⟨h5, _⟩ := hC.tc.row k r hr
  have ch := hC.head hv rfl
  obtain ⟨m0, m1, m2, m3, m4, rfl⟩ := five hms
  obtain ⟨x0, x1, x2, x3, x4, rfl⟩ := five h5
  have HV := Lib.hid hv; clear hv hms h5
  have HR := Lib.hid hr; clear hr
  have HC := Lib.hid hC; clear hC
  go_wp2
  clear ch
  refine wp_loop_rounds 6 ?_
  rw [rounds_succ]
  go_upto_block 5 with (fail)
  refine wid22 w0 _ _ rows vs B U #[.int .i64 m0, .int .i64 m1, .int .i64 m2, .int .i64 m3, .int .i64 m4] HC.out 0 (by omega) m0 rfl x0 g cap hcap (HC.out.word HR.out HV.out rfl) _ _ _ _ _ _ _ _ _ _ _ _ _ _ _ _ _ _ _ _ _ _ _ _ _ _ _ _ _ _ _ _ _ _ _ _ _ _ _ _ _ _ _ _ _ _ _ _ _ _ _ _ _ _ _ _ _ _ _ _ _ _ _ _ _ _ _ _ _ _ _ _ _ _ _ _ _ _ _ _ _ _ _ _ _ _ _ _ _ _ _ _ _ _ _ _ _ _ _ _ _ _ _ _ _ _ _ ?_
  intro j14 j15 j86 j87 j88 j89 j90 j91 j92 j93 j94 j95 j96 j97 j98 W0 hC
  simp only [List.setIfInBounds_toArray, List.set_cons_zero, List.set_cons_succ] at hC
  clear HC
  have HC := Lib.hid hC; clear hC
  go_wp2
  rw [rounds_succ]
  go_upto_block 5 with (fail)
  refine wid22 w0 _ _ rows vs B U #[.int .i64 (max m0 x0.size), .int .i64 m1, .int .i64 m2, .int .i64 m3, .int .i64 m4] HC.out 1 (by omega) m1 rfl x1 g cap hcap (HC.out.word HR.out HV.out rfl) _ _ _ _ _ _ _ _ _ _ _ _ _ _ _ _ _ _ _ _ _ _ _ _ _ _ _ _ _ _ _ _ _ _ _ _ _ _ _ _ _ _ _ _ _ _ _ _ _ _ _ _ _ _ _ _ _ _ _ _ _ _ _ _ _ _ _ _ _ _ _ _ _ _ _ _ _ _ _ _ _ _ _ _ _ _ _ _ _ _ _ _ _ _ _ _ _ _ _ _ _ _ _ _ _ _ _ ?_
  intro j14 j15 j86 j87 j88 j89 j90 j91 j92 j93 j94 j95 j96 j97 j98 W1 hC
  simp only [List.setIfInBounds_toArray, List.set_cons_zero, List.set_cons_succ] at hC
  clear HC
  have HC := Lib.hid hC; clear hC
  go_wp2
  rw [rounds_succ]
  go_upto_block 5 with (fail)
  refine wid22 w0 _ _ rows vs B U #[.int .i64 (max m0 x0.size), .int .i64 (max m1 x1.size), .int .i64 m2, .int .i64 m3, .int .i64 m4] HC.out 2 (by omega) m2 rfl x2 g cap hcap (HC.out.word HR.out HV.out rfl) _ _ _ _ _ _ _ _ _ _ _ _ _ _ _ _ _ _ _ _ _ _ _ _ _ _ _ _ _ _ _ _ _ _ _ _ _ _ _ _ _ _ _ _ _ _ _ _ _ _ _ _ _ _ _ _ _ _ _ _ _ _ _ _ _ _ _ _ _ _ _ _ _ _ _ _ _ _ _ _ _ _ _ _ _ _ _ _ _ _ _ _ _ _ _ _ _ _ _ _ _ _ _ _ _ _ _ ?_
  intro j14 j15 j86 j87 j88 j89 j90 j91 j92 j93 j94 j95 j96 j97 j98 W2 hC
  simp only [List.setIfInBounds_toArray, List.set_cons_zero, List.set_cons_succ] at hC
  clear HC
  have HC := Lib.hid hC; clear hC
  go_wp2
  rw [rounds_succ]
  go_upto_block 5 with (fail)
  refine wid22 w0 _ _ rows vs B U #[.int .i64 (max m0 x0.size), .int .i64 (max m1 x1.size), .int .i64 (max m2 x2.size), .int .i64 m3, .int .i64 m4] HC.out 3 (by omega) m3 rfl x3 g cap hcap (HC.out.word HR.out HV.out rfl) _ _ _ _ _ _ _ _ _ _ _ _ _ _ _ _ _ _ _ _ _ _ _ _ _ _ _ _ _ _ _ _ _ _ _ _ _ _ _ _ _ _ _ _ _ _ _ _ _ _ _ _ _ _ _ _ _ _ _ _ _ _ _ _ _ _ _ _ _ _ _ _ _ _ _ _ _ _ _ _ _ _ _ _ _ _ _ _ _ _ _ _ _ _ _ _ _ _ _ _ _ _ _ _ _ _ _ ?_
  intro j14 j15 j86 j87 j88 j89 j90 j91 j92 j93 j94 j95 j96 j97 j98 W3 hC
  simp only [List.setIfInBounds_toArray, List.set_cons_zero, List.set_cons_succ] at hC
  clear HC
  have HC := Lib.hid hC; clear hC
  go_wp2
  rw [rounds_succ]
  go_upto_block 5 with (fail)
  refine wid22 w0 _ _ rows vs B U #[.int .i64 (max m0 x0.size), .int .i64 (max m1 x1.size), .int .i64 (max m2 x2.size), .int .i64 (max m3 x3.size), .int .i64 m4] HC.out 4 (by omega) m4 rfl x4 g cap hcap (HC.out.word HR.out HV.out rfl) _ _ _ _ _ _ _ _ _ _ _ _ _ _ _ _ _ _ _ _ _ _ _ _ _ _ _ _ _ _ _ _ _ _ _ _ _ _ _ _ _ _ _ _ _ _ _ _ _ _ _ _ _ _ _ _ _ _ _ _ _ _ _ _ _ _ _ _ _ _ _ _ _ _ _ _ _ _ _ _ _ _ _ _ _ _ _ _ _ _ _ _ _ _ _ _ _ _ _ _ _ _ _ _ _ _ _ ?_
  intro j14 j15 j86 j87 j88 j89 j90 j91 j92 j93 j94 j95 j96 j97 j98 W4 hC
  simp only [List.setIfInBounds_toArray, List.set_cons_zero, List.set_cons_succ] at hC
  clear HC
  have HC := Lib.hid hC; clear hC
  go_wp2
  rw [rounds_succ]
  go_wp2
  exact H0.out _ _ _ _ _ _ _ _ _ _ _ _ _ _ _ _ _ _ _ _ _ _ _ _ HC.out
end Go.Proofs.YtajccjbigcdkbaaGreatDoor
