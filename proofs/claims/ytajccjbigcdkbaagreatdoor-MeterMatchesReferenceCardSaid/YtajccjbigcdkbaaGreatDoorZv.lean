/- MeterMatchesReference: the two lists of costs. -/
import Derived.Test.YtajccjbigcdkbaaGreatDoorZr
import Derived.Test.YtajccjbigcdkbaaGreatDoorZu
-- USEBDN
set_option linter.unusedSimpArgs false
set_option linter.unusedVariables false
namespace Go.Proofs.YtajccjbigcdkbaaGreatDoor
open Go.ChangeShapes Go.WideShapes Go.ChangeAt Go.RowKit
def IsRowV (v : Value) (n : Nat) : Prop := ∃ g cap, v = .slice (some ⟨g, 0, none⟩) n cap
theorem own_row {W : World} {base : Nat} {e : TypeId} {s n : Nat} {v : Value} {xs : List Value} (h : W.ownsRow base e s v n xs) (hn : n ≠ 0) : IsRowV v n := by
  rcases h.2 with ⟨_, h0⟩ | ⟨g, cap, cur, rfl, _⟩
  · exact absurd h0 hn
  · exact ⟨g, cap, rfl⟩
theorem row_some {v : Value} {n : Nat} (h : IsRowV v n) : v.ownBlock ≠ none := by
  obtain ⟨g, cap, rfl⟩ := h
  simp [Value.ownBlock]
theorem own_new {W : World} {base : Nat} {e : TypeId} {s n : Nat} {v v' u : Value} {xs : List Value} (h : W.ownsRow base e s u n xs) (hne : v.ownBlock ≠ u.ownBlock) (hv : v'.ownBlock = v.ownBlock ∨ v'.ownBlock = some W.heap.size) : v'.ownBlock ≠ u.ownBlock := by
  rcases hv with e1 | e1
  · rw [e1]; exact hne
  · rw [e1]
    intro e2
    have := (h.lt _ e2.symm).2
    omega
theorem law4 (a b c d : Int) (w : World) : Calls Tryz.prog 5 #[.agg #[.int .i64 a, .int .i64 b, .int .i64 c, .int .i64 d]] w fun e w' => ∃ z : Co, e = .returned (cov z) ∧ Below w.heap.size w w' :=
  (law_any ⟨a, b, c, d⟩ w).mono fun e w' ⟨h1, h2⟩ => ⟨_, h1, h2⟩
/-- While the two lists are made. -/
structure LM (w0 : World) (A : Nat) (x y : Co) (l1 l2 : List Co) (v9 v10 : Value) (W : World) : Prop where
  below : Below w0.heap.size w0 W
  big : w0.heap.size ≤ W.heap.size
  fa : W.heap[A]? = some (.cells (two8 x y) 24)
  o9 : W.ownsRow w0.heap.size 23 4 v9 l1.length (l1.flatMap cells4)
  o10 : W.ownsRow w0.heap.size 23 4 v10 l2.length (l2.flatMap cells4)
  r9 : IsRowV v9 l1.length
  r10 : IsRowV v10 l2.length
  ap : v9.ownBlock ≠ v10.ownBlock
theorem LM.closed {w0 : World} {A : Nat} {x y : Co} {l1 l2 : List Co} {v9 v10 : Value} {W W' : World} (h : LM w0 A x y l1 l2 v9 v10 W) (hb : Below W.heap.size W W') : LM w0 A x y l1 l2 v9 v10 W' :=
  ⟨h.below.trans (hb.mono h.big), Nat.le_trans h.big hb.size, by rw [hb.block A (Mild.lt_of_block h.fa)]; exact h.fa, own_below h.o9 hb, own_below h.o10 hb, h.r9, h.r10, h.ap⟩

set_option maxRecDepth 100000 in
set_option maxHeartbeats 4000000 in
theorem mr13 (w0 W : World) (A : Nat) (hA : A < w0.heap.size) (x y : Co) (l1 l2 : List Co) (v9 v10 : Value) (hn : l1.length ≤ 100) (hC : LM w0 A x y l1 l2 v9 v10 W) (k j : Nat) (hj : j < 2) (hmod : (k : Int) % 2 = (j : Int)) (c : Co) (h4 : (two8 x y)[j * 4]? = some (.int .i64 c.a) ∧ (two8 x y)[j * 4 + 1]? = some (.int .i64 c.b) ∧ (two8 x y)[j * 4 + 2]? = some (.int .i64 c.c) ∧ (two8 x y)[j * 4 + 3]? = some (.int .i64 c.d))
    (j0 j1 j2 j4 j5 j6 j7 j8 j10 j12 j13 j14 j15 j16 j17 j18 j19 j20 j21 j22 j23 j24 j25 j26 j27 j28 j29 j30 j31 j32 j33 j34 j35 j36 j37 j38 j39 j40 j41 j42 j43 j44 j45 j46 j47 j48 j49 j50 j51 j52 j53 j54 j55 j56 j57 j58 j59 j60 j61 j62 j63 j64 j65 j66 j67 j68 j69 j70 j71 j72 j73 j74 j75 j76 j77 j78 j79 j80 j81 j82 j83 j84 j85 j86 j87 j88 j89 j90 j91 j92 j93 j94 j95 j96 j97 j98 j99 j100 j101 j102 j103 j104 j105 j106 j107 j108 j109 j110 j111 j112 j113 j114 j115 j116 j117 j118 j119 j120 j121 j122 j123 j124 j125 j126 j127 j128 j129 j130 j131 j132 j133 j134 j135 j136 j137 j138 j139 j140 j141 j142 j143 j144 j145 j146 j147 j148 j149 j150 j151 j152 j153 j154 j155 j156 j157 j158 j159 j160 j161 : Value) (Q0 : Exit → Act → World → Prop)
    (h0 : ∀ v' j104 j105 j106 j107 j108 j109 j110 W', LM w0 A x y (l1 ++ [c]) l2 v' v10 W' → Q0 .normal { tmps := #[j0, j1, j2, .pointer (some ⟨A, 0, none⟩), j4, j5, j6, j7, j8, v', j10, .int .i64 k, j12, j13, j14, j15, j16, j17, j18, j19, j20, j21, j22, j23, j24, j25, j26, j27, j28, j29, j30, j31, j32, j33, j34, j35, j36, j37, j38, j39, j40, j41, j42, j43, j44, j45, j46, j47, j48, j49, j50, j51, j52, j53, j54, j55, j56, j57, j58, j59, j60, j61, j62, j63, j64, j65, j66, j67, j68, j69, j70, j71, j72, j73, j74, j75, j76, j77, j78, j79, j80, j81, j82, j83, j84, j85, j86, j87, j88, j89, j90, j91, j92, j93, j94, j95, j96, j97, j98, j99, j100, j101, j102, j103, j104, j105, j106, j107, j108, j109, j110, j111, j112, j113, j114, j115, j116, j117, j118, j119, j120, j121, j122, j123, j124, j125, j126, j127, j128, j129, j130, j131, j132, j133, j134, j135, j136, j137, j138, j139, j140, j141, j142, j143, j144, j145, j146, j147, j148, j149, j150, j151, j152, j153, j154, j155, j156, j157, j158, j159, j160, j161], defers := [] } W') :
    (navC [1, 1, 1, 1, 1, 1, 1, 0, 1, 1, 1, 1, 0, 1, 0] (Tryz.f3.body.getD .skip)).wp Tryz.prog Q0 { tmps := #[j0, j1, j2, .pointer (some ⟨A, 0, none⟩), j4, j5, j6, j7, j8, v9, j10, .int .i64 k, j12, j13, j14, j15, j16, j17, j18, j19, j20, j21, j22, j23, j24, j25, j26, j27, j28, j29, j30, j31, j32, j33, j34, j35, j36, j37, j38, j39, j40, j41, j42, j43, j44, j45, j46, j47, j48, j49, j50, j51, j52, j53, j54, j55, j56, j57, j58, j59, j60, j61, j62, j63, j64, j65, j66, j67, j68, j69, j70, j71, j72, j73, j74, j75, j76, j77, j78, j79, j80, j81, j82, j83, j84, j85, j86, j87, j88, j89, j90, j91, j92, j93, j94, j95, j96, j97, j98, j99, j100, j101, j102, j103, j104, j105, j106, j107, j108, j109, j110, j111, j112, j113, j114, j115, j116, j117, j118, j119, j120, j121, j122, j123, j124, j125, j126, j127, j128, j129, j130, j131, j132, j133, j134, j135, j136, j137, j138, j139, j140, j141, j142, j143, j144, j145, j146, j147, j148, j149, j150, j151, j152, j153, j154, j155, j156, j157, j158, j159, j160, j161], defers := [] } W := by
  conv => arg 2; whnf
  have H0 := Lib.hid h0; clear h0
  have hbig := hC.big
  have q1 := (Mild.cell_of_block hC.fa (j * 4)).trans h4.1
  have q2 := (Mild.cell_of_block hC.fa (j * 4 + 1)).trans h4.2.1
  have q3 := (Mild.cell_of_block hC.fa (j * 4 + 2)).trans h4.2.2.1
  have q4 := (Mild.cell_of_block hC.fa (j * 4 + 3)).trans h4.2.2.2
  have hji : (j : Int) < 2 := by omega
  have HC := Lib.hid (hC.closed ((Below.refl W.heap.size W).alloc (Nat.le_refl _) (.cells (coc c) 23)))
  clear hC h4
  obtain ⟨ti, hi9, hz0, hz1, hz2⟩ := info_parts infoCost
  go_wp2_with (at_builtin; go_loud (refine wpList_append_own_at _ rfl _ _ 38 rfl w0.heap.size 23 ti (.agg #[.int .i64 0, .int .i64 0, .int .i64 0, .int .i64 0]) 4 32 Tryz.underlying38 hi9 hz0 hz1 hz2 rfl (by decide) _ _ _ rfl HC.out.o9 ⟨W.heap.size, 0, none⟩ 1 1 (cells4 c) rfl rfl ?c1 ?c2 ?c3 ?c4 ?c5 ?_))
  case c2 => intro y hy; simp [cells4] at hy; rcases hy with rfl | rfl | rfl | rfl <;> rfl
  case c3 => unfold maxLen; omega
  case c4 => omega
  case c5 => first | omega | (simp; omega)
  · intro j u hj; exact hj
  intro v' w2 hown' hgrow _ hblk
  have h := HC.out
  have hnew : LM w0 A x y (l1 ++ [c]) l2 v' v10 w2 :=
    ⟨below_grown h.below hgrow h.big (fun k e => (h.o9.lt k e).1), Nat.le_trans h.big hgrow.size, by rw [hgrow.block A (Mild.lt_of_block h.fa) (fun e => by have := (h.o9.lt A e.symm).1; omega)]; exact h.fa, by simpa using hown', h.o10.kept hgrow (.inr h.ap.symm), own_row hown' (by omega) |> fun r => by simpa using r, h.r10, own_new h.o10 h.ap (by rw [World.size_alloc]; exact hblk)⟩
  have HN := Lib.hid hnew
  clear hnew h hown' hgrow hblk HC q1 q2 q3 q4
  go_wp2
  exact H0.out _ _ _ _ _ _ _ _ _ HN.out

set_option maxRecDepth 100000 in
set_option maxHeartbeats 4000000 in
theorem mr14 (w0 W : World) (A : Nat) (hA : A < w0.heap.size) (x y : Co) (l1 l2 : List Co) (v9 v10 : Value) (hn : l2.length ≤ 100) (hC : LM w0 A x y l1 l2 v9 v10 W) (k : Nat) (hk : k ≤ 20)
    (j0 j1 j2 j4 j5 j6 j7 j8 j9 j12 j13 j14 j15 j16 j17 j18 j19 j20 j21 j22 j23 j24 j25 j26 j27 j28 j29 j30 j31 j32 j33 j34 j35 j36 j37 j38 j39 j40 j41 j42 j43 j44 j45 j46 j47 j48 j49 j50 j51 j52 j53 j54 j55 j56 j57 j58 j59 j60 j61 j62 j63 j64 j65 j66 j67 j68 j69 j70 j71 j72 j73 j74 j75 j76 j77 j78 j79 j80 j81 j82 j83 j84 j85 j86 j87 j88 j89 j90 j91 j92 j93 j94 j95 j96 j97 j98 j99 j100 j101 j102 j103 j104 j105 j106 j107 j108 j109 j110 j111 j112 j113 j114 j115 j116 j117 j118 j119 j120 j121 j122 j123 j124 j125 j126 j127 j128 j129 j130 j131 j132 j133 j134 j135 j136 j137 j138 j139 j140 j141 j142 j143 j144 j145 j146 j147 j148 j149 j150 j151 j152 j153 j154 j155 j156 j157 j158 j159 j160 j161 : Value) (Q0 : Exit → Act → World → Prop)
    (h0 : ∀ z v' j111 j112 j113 j114 j115 j116 j117 j118 j119 j120 j121 j122 j123 j124 j125 j126 j127 W', LM w0 A x y l1 (l2 ++ [z]) v9 v' W' → Q0 .normal { tmps := #[j0, j1, j2, .pointer (some ⟨A, 0, none⟩), j4, j5, j6, j7, j8, j9, v', .int .i64 k, j12, j13, j14, j15, j16, j17, j18, j19, j20, j21, j22, j23, j24, j25, j26, j27, j28, j29, j30, j31, j32, j33, j34, j35, j36, j37, j38, j39, j40, j41, j42, j43, j44, j45, j46, j47, j48, j49, j50, j51, j52, j53, j54, j55, j56, j57, j58, j59, j60, j61, j62, j63, j64, j65, j66, j67, j68, j69, j70, j71, j72, j73, j74, j75, j76, j77, j78, j79, j80, j81, j82, j83, j84, j85, j86, j87, j88, j89, j90, j91, j92, j93, j94, j95, j96, j97, j98, j99, j100, j101, j102, j103, j104, j105, j106, j107, j108, j109, j110, j111, j112, j113, j114, j115, j116, j117, j118, j119, j120, j121, j122, j123, j124, j125, j126, j127, j128, j129, j130, j131, j132, j133, j134, j135, j136, j137, j138, j139, j140, j141, j142, j143, j144, j145, j146, j147, j148, j149, j150, j151, j152, j153, j154, j155, j156, j157, j158, j159, j160, j161], defers := [] } W') :
    (navC [1, 1, 1, 1, 1, 1, 1, 0, 1, 1, 1, 1, 0, 1, 1] (Tryz.f3.body.getD .skip)).wp Tryz.prog Q0 { tmps := #[j0, j1, j2, .pointer (some ⟨A, 0, none⟩), j4, j5, j6, j7, j8, j9, v10, .int .i64 k, j12, j13, j14, j15, j16, j17, j18, j19, j20, j21, j22, j23, j24, j25, j26, j27, j28, j29, j30, j31, j32, j33, j34, j35, j36, j37, j38, j39, j40, j41, j42, j43, j44, j45, j46, j47, j48, j49, j50, j51, j52, j53, j54, j55, j56, j57, j58, j59, j60, j61, j62, j63, j64, j65, j66, j67, j68, j69, j70, j71, j72, j73, j74, j75, j76, j77, j78, j79, j80, j81, j82, j83, j84, j85, j86, j87, j88, j89, j90, j91, j92, j93, j94, j95, j96, j97, j98, j99, j100, j101, j102, j103, j104, j105, j106, j107, j108, j109, j110, j111, j112, j113, j114, j115, j116, j117, j118, j119, j120, j121, j122, j123, j124, j125, j126, j127, j128, j129, j130, j131, j132, j133, j134, j135, j136, j137, j138, j139, j140, j141, j142, j143, j144, j145, j146, j147, j148, j149, j150, j151, j152, j153, j154, j155, j156, j157, j158, j159, j160, j161], defers := [] } W := by
  conv => arg 2; whnf
  have H0 := Lib.hid h0; clear h0
  have hki : (k : Int) ≤ 20 := by omega
  have hkk : (k : Int) * k ≤ 400 := by
    have h1 : k * k ≤ 20 * 20 := Nat.mul_le_mul hk hk
    exact_mod_cast h1
  have hkk0 : 0 ≤ (k : Int) * k := Int.mul_nonneg (by omega) (by omega)
  have cA := Mild.cell_of_block hC.fa
  have HC := Lib.hid hC; clear hC
  obtain ⟨ti, hi9, hz0, hz1, hz2⟩ := info_parts infoCost
  go_wp2_with (first | (go_at_call 5; refine (law4 _ _ _ _ _).mono ?_; rintro e w1 ⟨z, rfl, hb⟩; have HC1 := Lib.hid ((HC.out.closed hb).closed ((Below.refl w1.heap.size w1).alloc (Nat.le_refl _) (.cells (coc z) 23))); have hz1s := hb.size) | (at_builtin; go_loud (refine wpList_append_own_at _ rfl _ _ 38 rfl w0.heap.size 23 ti (.agg #[.int .i64 0, .int .i64 0, .int .i64 0, .int .i64 0]) 4 32 Tryz.underlying38 hi9 hz0 hz1 hz2 rfl (by decide) _ _ _ rfl HC1.out.o10 ⟨w1.heap.size, 0, none⟩ 1 1 (cells4 z) rfl rfl ?c1 ?c2 ?c3 ?c4 ?c5 ?_)))
  case c2 => intro y hy; simp [cells4] at hy; rcases hy with rfl | rfl | rfl | rfl <;> rfl
  case c3 => unfold maxLen; omega
  case c4 => omega
  case c5 => have := HC1.out.big; simpa using this
  · intro j u hj; exact Mild.cell_of_block (Mild.alloc_at w1 (.cells (coc z) 23)) j |> fun h => by rw [addr_plain, Nat.zero_add, h]; simpa [cells4, ← List.getElem?_toArray] using hj
  intro v' w2 hown' hgrow _ hblk
  have h := HC1.out
  have hnew : LM w0 A x y l1 (l2 ++ [z]) v9 v' w2 :=
    ⟨below_grown h.below hgrow h.big (fun k e => (h.o10.lt k e).1), Nat.le_trans h.big hgrow.size, by rw [hgrow.block A (Mild.lt_of_block h.fa) (fun e => by have := (h.o10.lt A e.symm).1; omega)]; exact h.fa, h.o9.kept hgrow (.inr h.ap), by simpa using hown', h.r9, own_row hown' (by omega) |> fun r => by simpa using r, (own_new h.o9 h.ap.symm (by rw [World.size_alloc]; exact hblk)).symm⟩
  have HN := Lib.hid hnew
  clear hnew h hown' hgrow hblk HC cA
  go_wp2
  exact H0.out z _ _ _ _ _ _ _ _ _ _ _ _ _ _ _ _ _ _ _ HN.out

set_option maxRecDepth 100000 in
set_option maxHeartbeats 4000000 in
theorem mlists (w0 W : World) (A : Nat) (hA : A < w0.heap.size) (x y : Co) (v9 v10 : Value) (hC : LM w0 A x y [] [] v9 v10 W) (an : Option Addr) (n ncap : Nat) (hn : n ≤ 20)
    (j0 j1 j4 j5 j6 j7 j8 j12 j13 j14 j15 j16 j17 j18 j19 j20 j21 j22 j23 j24 j25 j26 j27 j28 j29 j30 j31 j32 j33 j34 j35 j36 j37 j38 j39 j40 j41 j42 j43 j44 j45 j46 j47 j48 j49 j50 j51 j52 j53 j54 j55 j56 j57 j58 j59 j60 j61 j62 j63 j64 j65 j66 j67 j68 j69 j70 j71 j72 j73 j74 j75 j76 j77 j78 j79 j80 j81 j82 j83 j84 j85 j86 j87 j88 j89 j90 j91 j92 j93 j94 j95 j96 j97 j98 j99 j100 j101 j102 j103 j104 j105 j106 j107 j108 j109 j110 j111 j112 j113 j114 j115 j116 j117 j118 j119 j120 j121 j122 j123 j124 j125 j126 j127 j128 j129 j130 j131 j132 j133 j134 j135 j136 j137 j138 j139 j140 j141 j142 j143 j144 j145 j146 j147 j148 j149 j150 j151 j152 j153 j154 j155 j156 j157 j158 j159 j160 j161 : Value) (Q0 : Exit → Act → World → Prop)
    (h0 : ∀ l1 l2 u9 u10 j11 j98 j99 j100 j101 j102 j103 j104 j105 j106 j107 j108 j109 j110 j111 j112 j113 j114 j115 j116 j117 j118 j119 j120 j121 j122 j123 j124 j125 j126 j127 W', l1.length = n → l2.length = n → LM w0 A x y l1 l2 u9 u10 W' → Q0 .normal { tmps := #[j0, j1, .slice an n ncap, .pointer (some ⟨A, 0, none⟩), j4, j5, j6, j7, j8, u9, u10, j11, j12, j13, j14, j15, j16, j17, j18, j19, j20, j21, j22, j23, j24, j25, j26, j27, j28, j29, j30, j31, j32, j33, j34, j35, j36, j37, j38, j39, j40, j41, j42, j43, j44, j45, j46, j47, j48, j49, j50, j51, j52, j53, j54, j55, j56, j57, j58, j59, j60, j61, j62, j63, j64, j65, j66, j67, j68, j69, j70, j71, j72, j73, j74, j75, j76, j77, j78, j79, j80, j81, j82, j83, j84, j85, j86, j87, j88, j89, j90, j91, j92, j93, j94, j95, j96, j97, j98, j99, j100, j101, j102, j103, j104, j105, j106, j107, j108, j109, j110, j111, j112, j113, j114, j115, j116, j117, j118, j119, j120, j121, j122, j123, j124, j125, j126, j127, j128, j129, j130, j131, j132, j133, j134, j135, j136, j137, j138, j139, j140, j141, j142, j143, j144, j145, j146, j147, j148, j149, j150, j151, j152, j153, j154, j155, j156, j157, j158, j159, j160, j161], defers := [] } W') :
    (navC [1, 1, 1, 1, 1, 1, 1, 0, 1] (Tryz.f3.body.getD .skip)).wp Tryz.prog Q0 { tmps := #[j0, j1, .slice an n ncap, .pointer (some ⟨A, 0, none⟩), j4, j5, j6, j7, j8, v9, v10, .int .i64 0, j12, j13, j14, j15, j16, j17, j18, j19, j20, j21, j22, j23, j24, j25, j26, j27, j28, j29, j30, j31, j32, j33, j34, j35, j36, j37, j38, j39, j40, j41, j42, j43, j44, j45, j46, j47, j48, j49, j50, j51, j52, j53, j54, j55, j56, j57, j58, j59, j60, j61, j62, j63, j64, j65, j66, j67, j68, j69, j70, j71, j72, j73, j74, j75, j76, j77, j78, j79, j80, j81, j82, j83, j84, j85, j86, j87, j88, j89, j90, j91, j92, j93, j94, j95, j96, j97, j98, j99, j100, j101, j102, j103, j104, j105, j106, j107, j108, j109, j110, j111, j112, j113, j114, j115, j116, j117, j118, j119, j120, j121, j122, j123, j124, j125, j126, j127, j128, j129, j130, j131, j132, j133, j134, j135, j136, j137, j138, j139, j140, j141, j142, j143, j144, j145, j146, j147, j148, j149, j150, j151, j152, j153, j154, j155, j156, j157, j158, j159, j160, j161], defers := [] } W := by
  conv => arg 2; whnf
  have H0 := Lib.hid h0; clear h0
  have HC := Lib.hid hC; clear hC
  have hni : (n : Int) ≤ 20 := by omega
  go_wp2
  go_loopw [9, 10, 11] (fun t9 t10 t11 wr => ∃ (k : Nat) (l1 l2 : List Co), k ≤ n ∧ t11 = .int .i64 k ∧ Hid (l1.length = k ∧ l2.length = k) ∧ Hid (LM w0 A x y l1 l2 t9 t10 wr)) (fun _ _ i _ => n - (intOf i).toNat)
  case atStart => exact ⟨0, [], [], Nat.zero_le _, rfl, Lib.hid ⟨rfl, rfl⟩, HC⟩
  case round =>
    obtain ⟨k, l1, l2, hk, rfl, hl, hL⟩ := hrel
    by_cases hlt : k < n
    · have hq : (k : Int) < n := by omega
      obtain ⟨j, c, hj, hmod, h4⟩ : ∃ (j : Nat) (c : Co), j < 2 ∧ (k : Int) % 2 = (j : Int) ∧ ((two8 x y)[j * 4]? = some (.int .i64 c.a) ∧ (two8 x y)[j * 4 + 1]? = some (.int .i64 c.b) ∧ (two8 x y)[j * 4 + 2]? = some (.int .i64 c.c) ∧ (two8 x y)[j * 4 + 3]? = some (.int .i64 c.d)) := by
        by_cases h : k % 2 = 0
        · exact ⟨0, x, by omega, by omega, rfl, rfl, rfl, rfl⟩
        · exact ⟨1, y, by omega, by omega, rfl, rfl, rfl, rfl⟩
      have HJ := Lib.hid (And.intro hmod h4)
      clear hmod h4
      go_upto_region 13 with (fail)
      refine mr13 w0 _ A hA x y l1 l2 _ _ (by have := hl.out.1; omega) hL.out k j hj HJ.out.1 c HJ.out.2 _ _ _ _ _ _ _ _ _ _ _ _ _ _ _ _ _ _ _ _ _ _ _ _ _ _ _ _ _ _ _ _ _ _ _ _ _ _ _ _ _ _ _ _ _ _ _ _ _ _ _ _ _ _ _ _ _ _ _ _ _ _ _ _ _ _ _ _ _ _ _ _ _ _ _ _ _ _ _ _ _ _ _ _ _ _ _ _ _ _ _ _ _ _ _ _ _ _ _ _ _ _ _ _ _ _ _ _ _ _ _ _ _ _ _ _ _ _ _ _ _ _ _ _ _ _ _ _ _ _ _ _ _ _ _ _ _ _ _ _ _ _ _ _ _ _ _ _ _ _ _ _ _ _ _ _ _ _ _ _ ?_
      intro w9 j104 j105 j106 j107 j108 j109 j110 W1 hC1
      have HC1 := Lib.hid hC1
      clear hC1 hL
      go_upto_region 14 with (fail)
      refine mr14 w0 _ A hA x y _ l2 _ _ (by have := hl.out.2; omega) HC1.out k (by omega) _ _ _ _ _ _ _ _ _ _ _ _ _ _ _ _ _ _ _ _ _ _ _ _ _ _ _ _ _ _ _ _ _ _ _ _ _ _ _ _ _ _ _ _ _ _ _ _ _ _ _ _ _ _ _ _ _ _ _ _ _ _ _ _ _ _ _ _ _ _ _ _ _ _ _ _ _ _ _ _ _ _ _ _ _ _ _ _ _ _ _ _ _ _ _ _ _ _ _ _ _ _ _ _ _ _ _ _ _ _ _ _ _ _ _ _ _ _ _ _ _ _ _ _ _ _ _ _ _ _ _ _ _ _ _ _ _ _ _ _ _ _ _ _ _ _ _ _ _ _ _ _ _ _ _ _ _ _ _ _ ?_
      intro z w10 j111 j112 j113 j114 j115 j116 j117 j118 j119 j120 j121 j122 j123 j124 j125 j126 j127 W2 hC2
      have HC2 := Lib.hid hC2
      clear hC2 HC1
      go_wp2
      go_roundw
      case rel => exact ⟨k + 1, l1 ++ [c], l2 ++ [z], by omega, by go_num, Lib.hid ⟨by rw [List.length_append, hl.out.1]; rfl, by rw [List.length_append, hl.out.2]; rfl⟩, HC2⟩
      case measure => simp [intOf] <;> omega
    · obtain rfl : k = n := by omega
      have hq : ¬ (k : Int) < k := by omega
      go_wp2
      exact H0.out l1 l2 _ _ _ _ _ _ _ _ _ _ _ _ _ _ _ _ _ _ _ _ _ _ _ _ _ _ _ _ _ _ _ _ _ _ hl.out.1 hl.out.2 hL.out
end Go.Proofs.YtajccjbigcdkbaaGreatDoor
