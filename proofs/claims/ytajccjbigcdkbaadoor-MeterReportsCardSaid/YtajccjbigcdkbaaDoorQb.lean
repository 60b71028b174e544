/- MeterSums: the three costs. -/
import Derived.Test.YtajccjbigcdkbaaDoorQa
import Derived.Test.YtajccjbigcdkbaaDoorPd
-- USEBDN
set_option linter.unusedSimpArgs false
set_option linter.unusedVariables false
namespace Go.Proofs.YtajccjbigcdkbaaDoor
open Go.ChangeShapes Go.WideShapes Go.ChangeAt Go.RowKit
theorem mk26 (dst : Option Tmp) (ty : TypeId) (pos : String) (after : Array Edge) (g : Option (Nat × Bool)) (ρ : Operand → Value) (W : World) :
    (execOp ρ ⟨dst, .alloc 26, ty, pos, after, g⟩).run Tryd.prog W = .ok (.value (Mild2.ptrTo W.heap.size)) (W.alloc zob) := by
  simp [go_sem, Mild2.ptrTo]
theorem bks_more {B : Nat} {w0 : World} {bs : List (Nat × Obj)} {p : Nat × Obj} {W : World} (h : Mild.Bks B w0 bs W) (hp : W.heap[p.1]? = some p.2) : Mild.Bks B w0 (p :: bs) W :=
  ⟨h.below, h.big, fun q hq => by rcases List.mem_cons.1 hq with rfl | hq; exact hp; exact h.blocks q hq⟩
theorem bks_none {B : Nat} {w0 : World} {bs : List (Nat × Obj)} {W : World} (h : Mild.Bks B w0 bs W) : Mild.Bks B w0 [] W := ⟨h.below, h.big, fun q hq => by cases hq⟩

set_option maxRecDepth 100000 in
set_option maxHeartbeats 4000000 in
theorem sums4 (w0 W : World) (X : Nat) (x y z : Co) (hX : X < W.heap.size) (hC : Mild.Bks w0.heap.size w0 [(X, .cells #[.int .i64 x.a, .int .i64 x.b, .int .i64 x.c, .int .i64 x.d, .int .i64 y.a, .int .i64 y.b, .int .i64 y.c, .int .i64 y.d, .int .i64 z.a, .int .i64 z.b, .int .i64 z.c, .int .i64 z.d] 23)] W)
    (j0 j1 j3 j4 j5 j6 j7 j8 j9 j10 j11 j12 j13 j14 j15 j16 j17 j18 j19 j20 j21 j22 j23 j24 j25 j26 j27 j28 j29 j30 j31 j32 j33 j34 j35 j36 j37 j38 j39 j40 j41 j42 j43 j44 j45 j46 j47 j48 j49 j50 j51 j52 j53 j54 j55 j56 j57 j58 j59 j60 j61 j62 j63 j64 j65 j66 j67 j68 j69 j70 j71 j72 j73 j74 j75 j76 j77 j78 j79 j80 j81 j82 j83 j84 j85 j86 j87 j88 j89 j90 j91 j92 j93 j94 j95 j96 j97 j98 j99 j100 j101 j102 j103 j104 j105 j106 j107 j108 j109 j110 j111 j112 j113 j114 j115 j116 j117 j118 j119 j120 j121 j122 j123 j124 j125 j126 j127 j128 j129 j130 j131 j132 j133 j134 j135 j136 j137 j138 j139 j140 : Value) (Q0 : Exit → Act → World → Prop)
    (h0 : ∀ A B C j14 j15 j16 j17 j18 j19 j20 j21 j22 W', Mild.Bks w0.heap.size w0 [(A, .cells (coc (lawM x)) 26), (B, .cells (coc (lawM y)) 26), (C, .cells (coc (lawM z)) 26)] W' → Q0 .normal { tmps := #[j0, j1, pt X 0, j3, j4, j5, pt A 0, pt B 0, pt C 0, j9, j10, j11, j12, j13, j14, j15, j16, j17, j18, j19, j20, j21, j22, j23, j24, j25, j26, j27, j28, j29, j30, j31, j32, j33, j34, j35, j36, j37, j38, j39, j40, j41, j42, j43, j44, j45, j46, j47, j48, j49, j50, j51, j52, j53, j54, j55, j56, j57, j58, j59, j60, j61, j62, j63, j64, j65, j66, j67, j68, j69, j70, j71, j72, j73, j74, j75, j76, j77, j78, j79, j80, j81, j82, j83, j84, j85, j86, j87, j88, j89, j90, j91, j92, j93, j94, j95, j96, j97, j98, j99, j100, j101, j102, j103, j104, j105, j106, j107, j108, j109, j110, j111, j112, j113, j114, j115, j116, j117, j118, j119, j120, j121, j122, j123, j124, j125, j126, j127, j128, j129, j130, j131, j132, j133, j134, j135, j136, j137, j138, j139, j140], defers := [] } W') :
    (navC [1, 1, 1, 0] (Tryd.f3.body.getD .skip)).wp Tryd.prog Q0 { tmps := #[j0, j1, pt X 0, j3, j4, j5, j6, j7, j8, j9, j10, j11, j12, j13, j14, j15, j16, j17, j18, j19, j20, j21, j22, j23, j24, j25, j26, j27, j28, j29, j30, j31, j32, j33, j34, j35, j36, j37, j38, j39, j40, j41, j42, j43, j44, j45, j46, j47, j48, j49, j50, j51, j52, j53, j54, j55, j56, j57, j58, j59, j60, j61, j62, j63, j64, j65, j66, j67, j68, j69, j70, j71, j72, j73, j74, j75, j76, j77, j78, j79, j80, j81, j82, j83, j84, j85, j86, j87, j88, j89, j90, j91, j92, j93, j94, j95, j96, j97, j98, j99, j100, j101, j102, j103, j104, j105, j106, j107, j108, j109, j110, j111, j112, j113, j114, j115, j116, j117, j118, j119, j120, j121, j122, j123, j124, j125, j126, j127, j128, j129, j130, j131, j132, j133, j134, j135, j136, j137, j138, j139, j140], defers := [] } W := by
  conv => arg 2; whnf
  have H0 := Lib.hid h0; clear h0
  refine Mild2.region_mild 14 [⟨9, 6, zob⟩, ⟨10, 7, zob⟩, ⟨11, 8, zob⟩] [⟨12, 9, 6, 2, 16, .cells (coc (lawM x)) 26⟩, ⟨13, 10, 7, 5, 19, .cells (coc (lawM y)) 26⟩] (Mild.Bks w0.heap.size w0 [(X, .cells #[.int .i64 x.a, .int .i64 x.b, .int .i64 x.c, .int .i64 x.d, .int .i64 y.a, .int .i64 y.b, .int .i64 y.c, .int .i64 y.d, .int .i64 z.a, .int .i64 z.b, .int .i64 z.c, .int .i64 z.d] 23)]) (by kernel_rfl) 141 (by kernel_rfl) rfl (by simp) (by simp) (by simp) Mild.Bks.closed (bks_touch (by simpa using hX) hC.big) hC ?M10 ?H10
  case M10 => simp; exact ⟨mk26 _ _ _ _ _, mk26 _ _ _ _ _, mk26 _ _ _ _ _⟩
  apply Exists.intro
  refine ⟨?HW10, ?HS10, ?HT10⟩
  case HW10 =>
    intro W hW
    have hb := hW.blocks
    simp only [List.forall_mem_cons, List.not_mem_nil, false_imp_iff, implies_true, and_true] at hb
    have cX := Mild.cell_of_block hb
    clear hW hb
    simp only [List.take_succ_cons, List.take_zero]
    iterate 2 (apply walkM2_q rfl; go_wp2; refine ⟨rfl, rfl, Below.refl _ _, ?_⟩)
    apply walkM2_q rfl
    go_wp2_with (go_at_call 7; refine (law_any x _).mono ?_; rintro e w1 ⟨rfl, hb⟩)
    refine ⟨rfl, rfl, hb, ?_⟩
    iterate 2 (apply walkM2_q rfl; go_wp2; refine ⟨rfl, rfl, Below.refl _ _, ?_⟩)
    apply walkM2_q rfl
    go_wp2_with (go_at_call 7; refine (law_any y _).mono ?_; rintro e w1 ⟨rfl, hb⟩)
    refine ⟨rfl, rfl, hb, ?_⟩
    iterate 2 (apply walkM2_q rfl; go_wp2; refine ⟨rfl, rfl, Below.refl _ _, ?_⟩)
    apply walkM2_q rfl
    go_wp2_with (go_at_call 7; refine (law_any z _).mono ?_; rintro e w1 ⟨rfl, hb⟩)
    refine ⟨rfl, rfl, hb, ?_⟩
    repeat apply walkM2_m rfl
    exact walkM2_end rfl
  case HS10 =>
    intro st hst m hm hme o ho a bb W e1 e2 e3
    simp only [List.mem_cons, List.not_mem_nil, or_false] at hst hm
    rcases hst with rfl | rfl <;> rcases hm with rfl | rfl | rfl <;> first | (exact absurd hme (by decide)) | (simp at ho; subst ho; exact st26 _ _ _ _ _ _ a bb W e1 (e2.trans rfl) e3)
  case HT10 =>
    intro F w10 hC10 hheld hinj
    obtain ⟨hS1, hS⟩ := hheld ⟨9, 6, zob⟩ (by simp)
    obtain ⟨hT1, hT⟩ := hheld ⟨10, 7, zob⟩ (by simp)
    obtain ⟨hU1, hU⟩ := hheld ⟨11, 8, zob⟩ (by simp)
    have k1 : F 9 ≠ F 11 := hinj ⟨9, 6, zob⟩ (by simp) ⟨11, 8, zob⟩ (by simp) (by decide)
    have k2 : F 10 ≠ F 11 := hinj ⟨10, 7, zob⟩ (by simp) ⟨11, 8, zob⟩ (by simp) (by decide)
    clear hinj hheld
    simp only [Mild2.objFin, List.find?] at hS hT hU
    simp only [List.drop_succ_cons, List.drop_zero, Mild2.putAll, List.foldl_cons, List.foldl_nil, Mild2.ptrTo, Act.put, List.setIfInBounds_toArray, List.set_cons_zero, List.set_cons_succ]
    dsimp only at hS1 hS hT1 hT hU1 hU
    generalize F 9 = S at *
    generalize F 10 = T at *
    generalize F 11 = U at *
    have hbig := hC.big
    have HN := Lib.hid (bks_none hC10)
    have HS := Lib.hid hS
    have HT := Lib.hid hT
    have HU := Lib.hid hU
    have fU := Mild.free_of_block hU
    have cU := Mild.cell_of_block hU
    clear hS hT hU hC10 F
    go_wp2
    have hU2 := Joins.block_setCell (i := 3) (Joins.block_setCell (i := 2) (Joins.block_setCell (i := 1) (Joins.block_setCell (i := 0) HU.out (.int .i64 (lawM z).a)) (.int .i64 (lawM z).b)) (.int .i64 (lawM z).c)) (.int .i64 (lawM z).d)
    refine H0.out S T U _ _ _ _ _ _ _ _ _ _ ⟨by have := HN.out.below; (repeat' (first | (with_reducible exact Below.refl _ _) | (with_reducible assumption) | (with_reducible refine Below.alloc ?_ ?_ _) | (with_reducible refine Below.drew ?_) | (with_reducible refine bdn ?_ _) | (with_reducible refine Below.setCell ?_ ?_ _) | go_size)), by have := HN.out.big; simp [World.setCell]; omega, ?_⟩
    simp only [List.forall_mem_cons, List.not_mem_nil, false_imp_iff, implies_true, and_true]
    exact ⟨Mild.set_ne (Mild.set_ne (Mild.set_ne (Mild.set_ne HS.out k1) k1) k1) k1, Mild.set_ne (Mild.set_ne (Mild.set_ne (Mild.set_ne HT.out k2) k2) k2) k2, hU2⟩
end Go.Proofs.YtajccjbigcdkbaaDoor
