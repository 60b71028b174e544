/- The reference's Report: the table grows by a row. -/
import Derived.Test.YtajccjbigcdkbaaGreatDoorZh
import Derived.Test.YtajccjbigcdkbaaGreatDoorZb
-- USEBDN
set_option linter.unusedSimpArgs false
set_option linter.unusedVariables false
namespace Go.Proofs.YtajccjbigcdkbaaGreatDoor
open Go.ChangeShapes Go.WideShapes Go.ChangeAt Go.RowKit
abbrev ztold : Obj := .cells #[.string ⟨#[]⟩, .int .i64 0] 40
abbrev etold (e : Int) : Obj := .cells #[.string ⟨#[]⟩, .int .i64 e] 40

set_option maxRecDepth 100000 in
set_option maxHeartbeats 4000000 in
theorem rin9 (w0 W : World) (tv : Value) (rows : List (List ByteArray)) (vs : List Value) (hC : TC w0 tv rows vs W) (hrl : rows.length ≤ 2000) (c : Co) (hp : plainB c = true)
    (nb no na ncap nn lcap k : Nat) (hka : k < na) (hkn : k < nn) (x : ByteArray) (hnb : nb < w0.heap.size) (hx : w0.cell? ⟨nb, no + k, none⟩ = some (.string x))
    (lb lo : Nat) (hlb : lb < w0.heap.size) (h4 : w0.cell? ⟨lb, lo + k * 4, none⟩ = some (.int .i64 c.a) ∧ w0.cell? ⟨lb, lo + k * 4 + 1, none⟩ = some (.int .i64 c.b) ∧ w0.cell? ⟨lb, lo + k * 4 + 2, none⟩ = some (.int .i64 c.c) ∧ w0.cell? ⟨lb, lo + k * 4 + 3, none⟩ = some (.int .i64 c.d))
    (j2 j3 j4 j7 j8 j9 j10 j11 j12 j13 j14 j15 j16 j17 j18 j19 j20 j21 j22 j23 j24 j25 j26 j27 j28 j29 j30 j31 j32 j33 j34 j35 j36 j37 j38 j39 j40 j41 j42 j43 j44 j45 j46 j47 j48 j49 j50 j51 j52 j53 j54 j55 j56 j57 j58 j59 j60 j61 j62 j63 j64 j65 j66 j67 j68 j69 j70 j71 j72 j73 j74 j75 j76 j77 j78 j79 j80 j81 j82 j83 j84 j85 j86 j87 j88 j89 j90 j91 j92 j93 j94 j95 j96 j97 j98 j99 j100 j101 j102 j103 j104 j105 j106 j107 j108 j109 j110 j111 j112 j113 j114 j115 j116 j117 j118 j119 j120 j121 j122 j123 j124 j125 j126 j127 j128 j129 j130 j131 j132 j133 j134 j135 j136 j137 j138 j139 j140 j141 j142 j143 j144 j145 j146 j147 j148 j149 j150 j151 j152 j153 j154 j155 j156 j157 j158 j159 j160 j161 j162 j163 j164 j165 j166 : Value) (Q0 : Exit → Act → World → Prop)
    (h0 : ∀ j51 j52 j53 j54 j55 j56 j57 j58 j59 j60 j61 j62 tv' vs' W', TC w0 tv' (rows ++ [rowM x c]) vs' W' → Q0 .normal { tmps := #[.slice (some ⟨nb, no, none⟩) na ncap, .slice (some ⟨lb, lo, none⟩) nn lcap, j2, j3, j4, tv', .int .i64 k, j7, j8, j9, j10, j11, j12, j13, j14, j15, j16, j17, j18, j19, j20, j21, j22, j23, j24, j25, j26, j27, j28, j29, j30, j31, j32, j33, j34, j35, j36, j37, j38, j39, j40, j41, j42, j43, j44, j45, j46, j47, j48, j49, j50, j51, j52, j53, j54, j55, j56, j57, j58, j59, j60, j61, j62, j63, j64, j65, j66, j67, j68, j69, j70, j71, j72, j73, j74, j75, j76, j77, j78, j79, j80, j81, j82, j83, j84, j85, j86, j87, j88, j89, j90, j91, j92, j93, j94, j95, j96, j97, j98, j99, j100, j101, j102, j103, j104, j105, j106, j107, j108, j109, j110, j111, j112, j113, j114, j115, j116, j117, j118, j119, j120, j121, j122, j123, j124, j125, j126, j127, j128, j129, j130, j131, j132, j133, j134, j135, j136, j137, j138, j139, j140, j141, j142, j143, j144, j145, j146, j147, j148, j149, j150, j151, j152, j153, j154, j155, j156, j157, j158, j159, j160, j161, j162, j163, j164, j165, j166], defers := [] } W') :
    (navC [1, 1, 1, 0, 1, 1, 1, 1, 0, 1, 1] (Tryz.f20.body.getD .skip)).wp Tryz.prog Q0 { tmps := #[.slice (some ⟨nb, no, none⟩) na ncap, .slice (some ⟨lb, lo, none⟩) nn lcap, j2, j3, j4, tv, .int .i64 k, j7, j8, j9, j10, j11, j12, j13, j14, j15, j16, j17, j18, j19, j20, j21, j22, j23, j24, j25, j26, j27, j28, j29, j30, j31, j32, j33, j34, j35, j36, j37, j38, j39, j40, j41, j42, j43, j44, j45, j46, j47, j48, j49, j50, j51, j52, j53, j54, j55, j56, j57, j58, j59, j60, j61, j62, j63, j64, j65, j66, j67, j68, j69, j70, j71, j72, j73, j74, j75, j76, j77, j78, j79, j80, j81, j82, j83, j84, j85, j86, j87, j88, j89, j90, j91, j92, j93, j94, j95, j96, j97, j98, j99, j100, j101, j102, j103, j104, j105, j106, j107, j108, j109, j110, j111, j112, j113, j114, j115, j116, j117, j118, j119, j120, j121, j122, j123, j124, j125, j126, j127, j128, j129, j130, j131, j132, j133, j134, j135, j136, j137, j138, j139, j140, j141, j142, j143, j144, j145, j146, j147, j148, j149, j150, j151, j152, j153, j154, j155, j156, j157, j158, j159, j160, j161, j162, j163, j164, j165, j166], defers := [] } W := by
  conv => arg 2; whnf
  have H0 := Lib.hid h0; clear h0
  have hX := Lib.hid hx; clear hx
  have h4' := Lib.hid h4; clear h4
  have hkai : (k : Int) < na := by omega
  have hkni : (k : Int) < nn := by omega
  refine Tell.region_told 11 [⟨9, 60, IsRow w0 (rowM x c)⟩, ⟨10, 61, IsOne w0 (rowM x c)⟩] (fun W => TC w0 tv rows vs W) (by kernel_rfl) [(9, 60), (10, 61)] rfl 167 (by kernel_rfl) rfl (by simp) ?hC ?hR hC ?H
  case hC => exact fun W W' h hb => h.closed hb
  case hR =>
    simp only [List.forall_mem_cons, List.not_mem_nil, false_imp_iff, implies_true, and_true]
    refine ⟨fun v x y W W' h hb => own_below h hb, ?_⟩
    rintro v x y W W' ⟨b, u, h1, h2, h3, h4⟩ hb
    exact ⟨b, u, h1, by rw [hb.block b (Mild.lt_of_block h2)]; exact h2, h3, own_below h4 hb⟩
  apply Exists.intro
  refine ⟨?HW, ?HA, ?HT⟩
  case HW =>
    intro vals W hW
    have cx := (hW.below.cell (p := ⟨nb, no + k, none⟩) hnb).trans hX.out
    have q1 := (hW.below.cell (p := ⟨lb, _, none⟩) hlb).trans h4'.out.1
    have q2 := (hW.below.cell (p := ⟨lb, _, none⟩) hlb).trans h4'.out.2.1
    have q3 := (hW.below.cell (p := ⟨lb, _, none⟩) hlb).trans h4'.out.2.2.1
    have q4 := (hW.below.cell (p := ⟨lb, _, none⟩) hlb).trans h4'.out.2.2.2
    have hbg := hW.big
    clear hW
    simp only [List.take_succ_cons, List.take_zero]
    iterate 9 (apply Tell.walk_q rfl rfl; go_wp2; refine ⟨rfl, rfl, Below.refl _ _, ?_⟩)
    refine Tell.walk_t _ (List.mem_cons_self ..) rfl (by simp) ?_ ?_
    · intro _
      go_wp2_with (go_at_call 36; refine (cells_any x c _ hp).mono ?_; rintro e w1 ⟨v, rfl, hown, hb⟩)
      exact ⟨rfl, rfl, hb, own_mono hown hbg⟩
    · simp only [Act.put, List.setIfInBounds_toArray, List.set_cons_zero, List.set_cons_succ]
      refine Tell.walk_t _ (List.mem_cons_of_mem _ (List.mem_cons_self ..)) rfl (by simp) ?_ ?_
      · intro hy
        obtain ⟨lo, hi, ho, _⟩ := hy _ (List.mem_cons_self ..) (by kernel_rfl)
        have ho2 : W.ownsRow w0.heap.size 9 1 (vals 9) 5 ((rowM x c).map Value.string) := ho
        obtain ⟨g, cap, hv, hg1, hg2, hg3, hg4⟩ := own_open ho2
        rw [hv] at ho2 ⊢
        have HO := Lib.hid ho2; clear ho2 ho hg4 hv hy
        go_wp2
        exact ⟨rfl, rfl, (Below.refl _ _).alloc (Nat.le_refl _) _, W.heap.size, _, rfl, Mild.alloc_at _ _, rfl, HO.out.alloc _⟩
      · simp only [Act.put, List.setIfInBounds_toArray, List.set_cons_zero, List.set_cons_succ]
        exact Tell.walk_end rfl
  case HA => exact fun _ => rfl
  case HT =>
    intro vals lo hi w2 hC2 ht _
    simp only [List.forall_mem_cons, List.not_mem_nil, false_imp_iff, implies_true, and_true] at ht
    obtain ⟨_, ⟨b, u, hv, hbb, hu1, hrow⟩, _⟩ := ht
    simp only [List.drop_succ_cons, List.drop_zero, hv]
    have HC := Lib.hid hC2; clear hC2 hv hC
    have HB := Lib.hid hbb; clear hbb
    have HR := Lib.hid hrow; clear hrow
    obtain ⟨ti, hi9, hz0, hz1, hz2⟩ := info_parts info41
    go_wp2_with (at_builtin; refine wpList_append_own _ rfl _ _ 60 rfl w0.heap.size 25 ti (.slice none 0 0) 1 24 Tryz.underlying60 hi9 hz0 hz1 hz2 rfl (by decide) _ _ _ rfl (HC.out.tab) ⟨b, 0, none⟩ 1 1 [u] rfl rfl ?c1 ?c2 ?c3 ?c4 ?c5 ?_)
    case c1 =>
      intro j y hj
      match j, hj with
      | 0, hj => simp at hj; subst hj; exact Mild.cell_of_block HB.out 0
    case c3 => unfold maxLen; omega
    case c4 => omega
    case c5 => exact HC.out.big
    · intro v' w3 hown' hgrow _
      have hG := HC.out.more (row_len x c) HR.out hown' hgrow
      go_wp2
      exact H0.out _ _ _ _ _ _ _ _ _ _ _ _ _ _ _ hG

set_option maxRecDepth 100000 in
set_option maxHeartbeats 4000000 in
theorem rin7 (w w0 W : World) (R : Nat) (hR : R = w.heap.size) (hw0 : w0 = w.alloc ztold) (tv : Value) (rows : List (List ByteArray)) (vs : List Value) (hC : TC w0 tv rows vs W) (hrl : rows.length ≤ 2000) (c : Co)
    (an : Option Addr) (na ncap nn lcap k : Nat) (hka : k < na) (hkn : k < nn) (x : ByteArray) (hxz : x.size ≤ 9223372036854775807) (hx : ∃ nb no, an = some ⟨nb, no, none⟩ ∧ nb < w0.heap.size ∧ w0.cell? ⟨nb, no + k, none⟩ = some (.string x))
    (lb lo : Nat) (hlb : lb < w0.heap.size) (h4 : w0.cell? ⟨lb, lo + k * 4, none⟩ = some (.int .i64 c.a) ∧ w0.cell? ⟨lb, lo + k * 4 + 1, none⟩ = some (.int .i64 c.b) ∧ w0.cell? ⟨lb, lo + k * 4 + 2, none⟩ = some (.int .i64 c.c) ∧ w0.cell? ⟨lb, lo + k * 4 + 3, none⟩ = some (.int .i64 c.d))
    (j2 j3 j7 j8 j9 j10 j11 j12 j13 j14 j15 j16 j17 j18 j19 j20 j21 j22 j23 j24 j25 j26 j27 j28 j29 j30 j31 j32 j33 j34 j35 j36 j37 j38 j39 j40 j41 j42 j43 j44 j45 j46 j47 j48 j49 j50 j51 j52 j53 j54 j55 j56 j57 j58 j59 j60 j61 j62 j63 j64 j65 j66 j67 j68 j69 j70 j71 j72 j73 j74 j75 j76 j77 j78 j79 j80 j81 j82 j83 j84 j85 j86 j87 j88 j89 j90 j91 j92 j93 j94 j95 j96 j97 j98 j99 j100 j101 j102 j103 j104 j105 j106 j107 j108 j109 j110 j111 j112 j113 j114 j115 j116 j117 j118 j119 j120 j121 j122 j123 j124 j125 j126 j127 j128 j129 j130 j131 j132 j133 j134 j135 j136 j137 j138 j139 j140 j141 j142 j143 j144 j145 j146 j147 j148 j149 j150 j151 j152 j153 j154 j155 j156 j157 j158 j159 j160 j161 j162 j163 j164 j165 j166 : Value) (Q0 : Exit → Act → World → Prop)
    (h0 : (namedB x && plainB c) = true → ∀ j36 j37 j38 j39 j40 j41 j42 j43 j44 j45 j46 j47 j48 j49 j51 j52 j53 j54 j55 j56 j57 j58 j59 j60 j61 j62 tv' vs' W', TC w0 tv' (rows ++ [rowM x c]) vs' W' → Q0 .normal { tmps := #[.slice an na ncap, .slice (some ⟨lb, lo, none⟩) nn lcap, j2, j3, .pointer (some ⟨R, 0, none⟩), tv', .int .i64 k, j7, j8, j9, j10, j11, j12, j13, j14, j15, j16, j17, j18, j19, j20, j21, j22, j23, j24, j25, j26, j27, j28, j29, j30, j31, j32, j33, j34, j35, j36, j37, j38, j39, j40, j41, j42, j43, j44, j45, j46, j47, j48, j49, j50, j51, j52, j53, j54, j55, j56, j57, j58, j59, j60, j61, j62, j63, j64, j65, j66, j67, j68, j69, j70, j71, j72, j73, j74, j75, j76, j77, j78, j79, j80, j81, j82, j83, j84, j85, j86, j87, j88, j89, j90, j91, j92, j93, j94, j95, j96, j97, j98, j99, j100, j101, j102, j103, j104, j105, j106, j107, j108, j109, j110, j111, j112, j113, j114, j115, j116, j117, j118, j119, j120, j121, j122, j123, j124, j125, j126, j127, j128, j129, j130, j131, j132, j133, j134, j135, j136, j137, j138, j139, j140, j141, j142, j143, j144, j145, j146, j147, j148, j149, j150, j151, j152, j153, j154, j155, j156, j157, j158, j159, j160, j161, j162, j163, j164, j165, j166], defers := [] } W')
    (h1 : (namedB x && plainB c) = false → ∀ j36 j37 j38 j39 j40 j41 j42 j43 j44 j45 j46 j47 j48 j49 j50 W', Below w.heap.size w W' → W'.heap[R]? = some (etold 1) → Q0 .ret { tmps := #[.slice an na ncap, .slice (some ⟨lb, lo, none⟩) nn lcap, j2, j3, .pointer (some ⟨R, 0, none⟩), tv, .int .i64 k, j7, j8, j9, j10, j11, j12, j13, j14, j15, j16, j17, j18, j19, j20, j21, j22, j23, j24, j25, j26, j27, j28, j29, j30, j31, j32, j33, j34, j35, j36, j37, j38, j39, j40, j41, j42, j43, j44, j45, j46, j47, j48, j49, j50, j51, j52, j53, j54, j55, j56, j57, j58, j59, j60, j61, j62, j63, j64, j65, j66, j67, j68, j69, j70, j71, j72, j73, j74, j75, j76, j77, j78, j79, j80, j81, j82, j83, j84, j85, j86, j87, j88, j89, j90, j91, j92, j93, j94, j95, j96, j97, j98, j99, j100, j101, j102, j103, j104, j105, j106, j107, j108, j109, j110, j111, j112, j113, j114, j115, j116, j117, j118, j119, j120, j121, j122, j123, j124, j125, j126, j127, j128, j129, j130, j131, j132, j133, j134, j135, j136, j137, j138, j139, j140, j141, j142, j143, j144, j145, j146, j147, j148, j149, j150, j151, j152, j153, j154, j155, j156, j157, j158, j159, j160, j161, j162, j163, j164, j165, j166], defers := [] } W') :
    (navC [1, 1, 1, 0, 1, 1, 1, 1, 0] (Tryz.f20.body.getD .skip)).wp Tryz.prog Q0 { tmps := #[.slice an na ncap, .slice (some ⟨lb, lo, none⟩) nn lcap, j2, j3, .pointer (some ⟨R, 0, none⟩), tv, .int .i64 k, j7, j8, j9, j10, j11, j12, j13, j14, j15, j16, j17, j18, j19, j20, j21, j22, j23, j24, j25, j26, j27, j28, j29, j30, j31, j32, j33, j34, j35, j36, j37, j38, j39, j40, j41, j42, j43, j44, j45, j46, j47, j48, j49, j50, j51, j52, j53, j54, j55, j56, j57, j58, j59, j60, j61, j62, j63, j64, j65, j66, j67, j68, j69, j70, j71, j72, j73, j74, j75, j76, j77, j78, j79, j80, j81, j82, j83, j84, j85, j86, j87, j88, j89, j90, j91, j92, j93, j94, j95, j96, j97, j98, j99, j100, j101, j102, j103, j104, j105, j106, j107, j108, j109, j110, j111, j112, j113, j114, j115, j116, j117, j118, j119, j120, j121, j122, j123, j124, j125, j126, j127, j128, j129, j130, j131, j132, j133, j134, j135, j136, j137, j138, j139, j140, j141, j142, j143, j144, j145, j146, j147, j148, j149, j150, j151, j152, j153, j154, j155, j156, j157, j158, j159, j160, j161, j162, j163, j164, j165, j166], defers := [] } W := by
  conv => arg 2; whnf
  obtain ⟨nb, no, rfl, hnb, hx⟩ := hx
  have H0 := Lib.hid h0; clear h0
  have H1 := Lib.hid h1; clear h1
  have HX := Lib.hid hx
  have H4 := Lib.hid h4
  have hkai : (k : Int) < na := by omega
  have hkni : (k : Int) < nn := by omega
  have hlast : ∀ W', Below w0.heap.size w0 W' → Below w.heap.size w W' ∧ W'.heap[R]? = some ztold := fun W' hb => by
    subst hR
    have h2 : Below w.heap.size w w0 := by rw [hw0]; exact (Below.refl _ _).alloc (Nat.le_refl _) _
    refine ⟨h2.trans (hb.mono h2.size), ?_⟩
    have hlt : w.heap.size < w0.heap.size := by rw [hw0, World.size_alloc]; omega
    rw [hb.block _ hlt, hw0]
    exact Mild.alloc_at _ _
  have HL := Lib.hid hlast; clear hlast
  have HRR := Lib.hid hR; clear hR hw0
  have hx2 := (hC.below.cell (p := ⟨nb, _, none⟩) hnb).trans hx
  have HC := Lib.hid hC; clear hC hx h4
  cases hnm : namedB x with
  | false =>
    have HN := Lib.hid hnm; clear hnm
    go_wp2_with (go_at_call 35; refine (name_any x hxz _).mono ?_; rintro e w1 ⟨rfl, hb⟩; rw [HN.out]; have HE := Lib.hid (HL.out w1 (HC.out.closed hb).below); have fR := Mild.free_of_block HE.out.2; have cR := Mild.cell_of_block HE.out.2; clear hb hx2)
    exact H1.out (by rw [HN.out]; rfl) _ _ _ _ _ _ _ _ _ _ _ _ _ _ _ _ ((HE.out.1.setCell (Nat.le_of_eq HRR.out.symm) _).setCell (Nat.le_of_eq HRR.out.symm) _) (Joins.block_setCell (i := 1) (Joins.block_setCell (i := 0) HE.out.2 (.string ⟨#[]⟩)) (.int .i64 1))
  | true =>
    have HN := Lib.hid hnm; clear hnm
    have r1 := fun W1 (hb : Below w0.heap.size w0 W1) => (hb.cell (p := ⟨lb, _, none⟩) hlb).trans H4.out.1
    have r2 := fun W1 (hb : Below w0.heap.size w0 W1) => (hb.cell (p := ⟨lb, _, none⟩) hlb).trans H4.out.2.1
    have r3 := fun W1 (hb : Below w0.heap.size w0 W1) => (hb.cell (p := ⟨lb, _, none⟩) hlb).trans H4.out.2.2.1
    have r4 := fun W1 (hb : Below w0.heap.size w0 W1) => (hb.cell (p := ⟨lb, _, none⟩) hlb).trans H4.out.2.2.2
    have HR4 := Lib.hid (And.intro r1 (And.intro r2 (And.intro r3 r4)))
    clear r1 r2 r3 r4
    cases hpl : plainB c with
    | false =>
      have HP := Lib.hid hpl; clear hpl
      go_wp2_with (first | (go_at_call 35; refine (name_any x hxz _).mono ?_; rintro e w1 ⟨rfl, hb⟩; rw [HN.out]; have HC1 := Lib.hid (HC.out.closed hb); have q1 := HR4.out.1 w1 HC1.out.below; have q2 := HR4.out.2.1 w1 HC1.out.below; have q3 := HR4.out.2.2.1 w1 HC1.out.below; have q4 := HR4.out.2.2.2 w1 HC1.out.below; clear hb hx2) | (go_at_call 33; refine (refplain_any c _).mono ?_; rintro e w2 ⟨rfl, hb2⟩; rw [HP.out]; have HE := Lib.hid (HL.out w2 (HC1.out.closed hb2).below); have fR := Mild.free_of_block HE.out.2; have cR := Mild.cell_of_block HE.out.2; clear hb2 q1 q2 q3 q4))
      exact H1.out (by rw [HP.out, HN.out]; rfl) _ _ _ _ _ _ _ _ _ _ _ _ _ _ _ _ ((HE.out.1.setCell (Nat.le_of_eq HRR.out.symm) _).setCell (Nat.le_of_eq HRR.out.symm) _) (Joins.block_setCell (i := 1) (Joins.block_setCell (i := 0) HE.out.2 (.string ⟨#[]⟩)) (.int .i64 1))
    | true =>
      have HP := Lib.hid hpl; clear hpl
      go_upto_region 9 with (first | (go_at_call 35; refine (name_any x hxz _).mono ?_; rintro e w1 ⟨rfl, hb⟩; rw [HN.out]; have HC1 := Lib.hid (HC.out.closed hb); have q1 := HR4.out.1 w1 HC1.out.below; have q2 := HR4.out.2.1 w1 HC1.out.below; have q3 := HR4.out.2.2.1 w1 HC1.out.below; have q4 := HR4.out.2.2.2 w1 HC1.out.below; clear hb hx2) | (go_at_call 33; refine (refplain_any c _).mono ?_; rintro e w2 ⟨rfl, hb2⟩; rw [HP.out]; clear q1 q2 q3 q4))
      refine rin9 w0 _ tv rows vs (HC1.out.closed hb2) hrl c HP.out nb no na ncap nn lcap k hka hkn x hnb HX.out lb lo hlb H4.out _ _ _ _ _ _ _ _ _ _ _ _ _ _ _ _ _ _ _ _ _ _ _ _ _ _ _ _ _ _ _ _ _ _ _ _ _ _ _ _ _ _ _ _ _ _ _ _ _ _ _ _ _ _ _ _ _ _ _ _ _ _ _ _ _ _ _ _ _ _ _ _ _ _ _ _ _ _ _ _ _ _ _ _ _ _ _ _ _ _ _ _ _ _ _ _ _ _ _ _ _ _ _ _ _ _ _ _ _ _ _ _ _ _ _ _ _ _ _ _ _ _ _ _ _ _ _ _ _ _ _ _ _ _ _ _ _ _ _ _ _ _ _ _ _ _ _ _ _ _ _ _ _ _ _ _ _ _ _ _ _ _ _ _ ?_
      intro j51 j52 j53 j54 j55 j56 j57 j58 j59 j60 j61 j62 tv' vs' W' hC'
      go_wp2
      exact H0.out (by rw [HP.out, HN.out]; rfl) _ _ _ _ _ _ _ _ _ _ _ _ _ _ _ _ _ _ _ _ _ _ _ _ _ _ _ _ _ hC'
end Go.Proofs.YtajccjbigcdkbaaGreatDoor
