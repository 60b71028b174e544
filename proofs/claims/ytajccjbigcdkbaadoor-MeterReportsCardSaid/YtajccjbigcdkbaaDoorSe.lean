/- MeterTexts: a cost and a name of the report. -/
import Derived.Test.YtajccjbigcdkbaaDoorQb
import Derived.Test.YtajccjbigcdkbaaDoorSd
-- USEBDN
set_option linter.unusedSimpArgs false
set_option linter.unusedVariables false
namespace Go.Proofs.YtajccjbigcdkbaaDoor
open Go.ChangeShapes Go.WideShapes Go.ChangeAt Go.RowKit
/-- Four numbers of sixteen bits in the argument. -/
structure X4 (W : World) (xb xo k : Nat) (v : Co) : Prop where
  lt : xb < W.heap.size
  a : W.cell? ⟨xb, xo + k * 4, none⟩ = some (.int .u16 v.a)
  b : W.cell? ⟨xb, xo + k * 4 + 1, none⟩ = some (.int .u16 v.b)
  c : W.cell? ⟨xb, xo + k * 4 + 2, none⟩ = some (.int .u16 v.c)
  d : W.cell? ⟨xb, xo + k * 4 + 3, none⟩ = some (.int .u16 v.d)
  low : Low 65535 v

set_option maxRecDepth 100000 in
set_option maxHeartbeats 4000000 in
theorem reps11 (W : World) (xb xo xl xc k : Nat) (hk : k < xl) (c : Co) (hX : X4 W xb xo k c)
    (j1 j2 j3 j4 j5 j6 j7 j8 j9 j10 j11 j13 j14 j15 j16 j17 j18 j19 j20 j21 j22 j23 j24 j25 j26 j27 j28 j29 j30 j31 j32 j33 j34 j35 j36 j37 j38 j39 j40 j41 j42 j43 j44 j45 j46 j47 j48 j49 j50 j51 j52 j53 j54 j55 j56 j57 j58 j59 j60 j61 j62 j63 j64 j65 j66 j67 j68 j69 j70 j71 j72 j73 j74 j75 j76 j77 j78 j79 j80 j81 j82 j83 j84 j85 j86 j87 j88 j89 j90 j91 j92 j93 j94 j95 j96 j97 j98 j99 j100 j101 j102 j103 j104 j105 j106 j107 j108 j109 j110 j111 j112 j113 j114 j115 j116 j117 j118 j119 j120 j121 j122 j123 j124 j125 j126 j127 j128 j129 j130 j131 j132 j133 j134 j135 j136 j137 j138 j139 j140 j141 j142 j143 j144 j145 j146 j147 j148 j149 j150 j151 j152 j153 j154 j155 j156 j157 j158 j159 j160 j161 j162 j163 j164 j165 j166 j167 j168 j169 j170 j171 j172 j173 j174 j175 j176 j177 j178 j179 j180 j181 j182 j183 j184 j185 j186 j187 j188 j189 j190 j191 j192 j193 j194 j195 j196 j197 j198 j199 j200 j201 j202 j203 j204 j205 j206 j207 j208 j209 j210 j211 j212 j213 j214 j215 j216 j217 j218 j219 j220 j221 j222 j223 j224 j225 j226 j227 j228 j229 j230 j231 j232 j233 j234 j235 j236 j237 j238 j239 j240 j241 j242 j243 j244 j245 j246 j247 j248 j249 j250 j251 j252 j253 j254 : Value) (Q0 : Exit → Act → World → Prop)
    (h0 : ∀ A j35 j36 j37 j38 j39 j40 j41 j42 j43 j44 j45 j46 j47 j48 j49 j50 j51 j52 j53 j54 j55 j56 j57 j58 j59 W', Mild.Bks W.heap.size W [(A, .cells (coc c) 26)] W' → W.heap.size ≤ A → Q0 .normal { tmps := #[.slice (some ⟨xb, xo, none⟩) xl xc, j1, j2, j3, j4, j5, j6, j7, j8, j9, j10, j11, .int .i64 k, pt A 0, j14, j15, j16, j17, j18, j19, j20, j21, j22, j23, j24, j25, j26, j27, j28, j29, j30, j31, j32, j33, j34, j35, j36, j37, j38, j39, j40, j41, j42, j43, j44, j45, j46, j47, j48, j49, j50, j51, j52, j53, j54, j55, j56, j57, j58, j59, j60, j61, j62, j63, j64, j65, j66, j67, j68, j69, j70, j71, j72, j73, j74, j75, j76, j77, j78, j79, j80, j81, j82, j83, j84, j85, j86, j87, j88, j89, j90, j91, j92, j93, j94, j95, j96, j97, j98, j99, j100, j101, j102, j103, j104, j105, j106, j107, j108, j109, j110, j111, j112, j113, j114, j115, j116, j117, j118, j119, j120, j121, j122, j123, j124, j125, j126, j127, j128, j129, j130, j131, j132, j133, j134, j135, j136, j137, j138, j139, j140, j141, j142, j143, j144, j145, j146, j147, j148, j149, j150, j151, j152, j153, j154, j155, j156, j157, j158, j159, j160, j161, j162, j163, j164, j165, j166, j167, j168, j169, j170, j171, j172, j173, j174, j175, j176, j177, j178, j179, j180, j181, j182, j183, j184, j185, j186, j187, j188, j189, j190, j191, j192, j193, j194, j195, j196, j197, j198, j199, j200, j201, j202, j203, j204, j205, j206, j207, j208, j209, j210, j211, j212, j213, j214, j215, j216, j217, j218, j219, j220, j221, j222, j223, j224, j225, j226, j227, j228, j229, j230, j231, j232, j233, j234, j235, j236, j237, j238, j239, j240, j241, j242, j243, j244, j245, j246, j247, j248, j249, j250, j251, j252, j253, j254], defers := [] } W') :
    (navC [1, 1, 1, 1, 1, 1, 1, 0, 1, 1, 1, 1, 0, 1, 0] (Tryd.f5.body.getD .skip)).wp Tryd.prog Q0 { tmps := #[.slice (some ⟨xb, xo, none⟩) xl xc, j1, j2, j3, j4, j5, j6, j7, j8, j9, j10, j11, .int .i64 k, j13, j14, j15, j16, j17, j18, j19, j20, j21, j22, j23, j24, j25, j26, j27, j28, j29, j30, j31, j32, j33, j34, j35, j36, j37, j38, j39, j40, j41, j42, j43, j44, j45, j46, j47, j48, j49, j50, j51, j52, j53, j54, j55, j56, j57, j58, j59, j60, j61, j62, j63, j64, j65, j66, j67, j68, j69, j70, j71, j72, j73, j74, j75, j76, j77, j78, j79, j80, j81, j82, j83, j84, j85, j86, j87, j88, j89, j90, j91, j92, j93, j94, j95, j96, j97, j98, j99, j100, j101, j102, j103, j104, j105, j106, j107, j108, j109, j110, j111, j112, j113, j114, j115, j116, j117, j118, j119, j120, j121, j122, j123, j124, j125, j126, j127, j128, j129, j130, j131, j132, j133, j134, j135, j136, j137, j138, j139, j140, j141, j142, j143, j144, j145, j146, j147, j148, j149, j150, j151, j152, j153, j154, j155, j156, j157, j158, j159, j160, j161, j162, j163, j164, j165, j166, j167, j168, j169, j170, j171, j172, j173, j174, j175, j176, j177, j178, j179, j180, j181, j182, j183, j184, j185, j186, j187, j188, j189, j190, j191, j192, j193, j194, j195, j196, j197, j198, j199, j200, j201, j202, j203, j204, j205, j206, j207, j208, j209, j210, j211, j212, j213, j214, j215, j216, j217, j218, j219, j220, j221, j222, j223, j224, j225, j226, j227, j228, j229, j230, j231, j232, j233, j234, j235, j236, j237, j238, j239, j240, j241, j242, j243, j244, j245, j246, j247, j248, j249, j250, j251, j252, j253, j254], defers := [] } W := by
  conv => arg 2; whnf
  have H0 := Lib.hid h0; clear h0
  have HX := Lib.hid hX; clear hX
  have hk1 : (k : Int) < xl := by omega
  have hC : Mild.Bks W.heap.size W [] W := ⟨Below.refl _ _, Nat.le_refl _, fun q hq => by cases hq⟩
  refine Mild2.region_mild 26 [⟨25, 13, zob⟩] [] (Mild.Bks W.heap.size W []) (by kernel_rfl) 255 (by kernel_rfl) rfl (by simp) (by simp) (by simp) Mild.Bks.closed (bks_touch (by simp) hC.big) hC ?M10 ?H10
  case M10 => simp; exact mk26 _ _ _ _ _
  apply Exists.intro
  refine ⟨?HW10, ?HS10, ?HT10⟩
  case HW10 =>
    intro W1 hW
    have c0 := (hW.below.cell (p := ⟨xb, _, none⟩) HX.out.lt).trans HX.out.a
    have c1 := (hW.below.cell (p := ⟨xb, _, none⟩) HX.out.lt).trans HX.out.b
    have c2 := (hW.below.cell (p := ⟨xb, _, none⟩) HX.out.lt).trans HX.out.c
    have c3 := (hW.below.cell (p := ⟨xb, _, none⟩) HX.out.lt).trans HX.out.d
    have l0 := HX.out.low.a
    have l1 := HX.out.low.b
    have l2 := HX.out.low.c
    have l3 := HX.out.low.d
    clear hW
    simp only [List.take_succ_cons, List.take_zero]
    apply walkM2_q rfl
    go_wp2
    refine ⟨rfl, rfl, Below.refl _ _, ?_⟩
    apply walkM2_q rfl
    go_wp2
    refine ⟨rfl, rfl, Below.refl _ _, ?_⟩
    apply walkM2_q rfl
    go_wp2
    refine ⟨rfl, rfl, Below.refl _ _, ?_⟩
    apply walkM2_q rfl
    go_wp2
    refine ⟨rfl, rfl, Below.refl _ _, ?_⟩
    apply walkM2_q rfl
    go_wp2
    refine ⟨rfl, rfl, Below.refl _ _, ?_⟩
    apply walkM2_q rfl
    go_wp2
    refine ⟨rfl, rfl, Below.refl _ _, ?_⟩
    apply walkM2_q rfl
    go_wp2
    refine ⟨rfl, rfl, Below.refl _ _, ?_⟩
    apply walkM2_q rfl
    go_wp2
    refine ⟨rfl, rfl, Below.refl _ _, ?_⟩
    apply walkM2_q rfl
    go_wp2
    refine ⟨rfl, rfl, Below.refl _ _, ?_⟩
    apply walkM2_q rfl
    go_wp2
    refine ⟨rfl, rfl, Below.refl _ _, ?_⟩
    apply walkM2_q rfl
    go_wp2
    refine ⟨rfl, rfl, Below.refl _ _, ?_⟩
    apply walkM2_q rfl
    go_wp2
    refine ⟨rfl, rfl, Below.refl _ _, ?_⟩
    apply walkM2_q rfl
    go_wp2
    refine ⟨rfl, rfl, Below.refl _ _, ?_⟩
    apply walkM2_q rfl
    go_wp2
    refine ⟨rfl, rfl, Below.refl _ _, ?_⟩
    apply walkM2_q rfl
    go_wp2
    refine ⟨rfl, rfl, Below.refl _ _, ?_⟩
    apply walkM2_q rfl
    go_wp2
    refine ⟨rfl, rfl, Below.refl _ _, ?_⟩
    apply walkM2_q rfl
    go_wp2
    refine ⟨rfl, rfl, Below.refl _ _, ?_⟩
    apply walkM2_q rfl
    go_wp2
    refine ⟨rfl, rfl, Below.refl _ _, ?_⟩
    apply walkM2_q rfl
    go_wp2
    refine ⟨rfl, rfl, Below.refl _ _, ?_⟩
    apply walkM2_q rfl
    go_wp2
    refine ⟨rfl, rfl, Below.refl _ _, ?_⟩
    apply walkM2_q rfl
    go_wp2
    refine ⟨rfl, rfl, Below.refl _ _, ?_⟩
    apply walkM2_q rfl
    go_wp2
    refine ⟨rfl, rfl, Below.refl _ _, ?_⟩
    apply walkM2_q rfl
    go_wp2
    refine ⟨rfl, rfl, Below.refl _ _, ?_⟩
    apply walkM2_q rfl
    go_wp2
    refine ⟨rfl, rfl, Below.refl _ _, ?_⟩
    apply walkM2_q rfl
    go_wp2
    refine ⟨rfl, rfl, Below.refl _ _, ?_⟩
    repeat apply walkM2_m rfl
    exact walkM2_end rfl
  case HS10 =>
    intro st hst
    simp at hst
  case HT10 =>
    intro F w10 hC10 hheld hinj
    obtain ⟨hU1, hU⟩ := hheld ⟨25, 13, zob⟩ (by simp)
    clear hinj hheld
    simp only [Mild2.objFin, List.find?] at hU
    simp only [List.drop_succ_cons, List.drop_zero, Mild2.putAll, List.foldl_cons, List.foldl_nil, Mild2.ptrTo, Act.put, List.setIfInBounds_toArray, List.set_cons_zero, List.set_cons_succ]
    dsimp only at hU1 hU
    generalize F 25 = U at *
    have hbig := hC10.big
    have HN := Lib.hid hC10
    have HU := Lib.hid hU
    have fU := Mild.free_of_block hU
    have cU := Mild.cell_of_block hU
    clear hU hC10 F hC
    go_wp2
    have hU2 := Joins.block_setCell (i := 3) (Joins.block_setCell (i := 2) (Joins.block_setCell (i := 1) (Joins.block_setCell (i := 0) HU.out (.int .i64 c.a)) (.int .i64 c.b)) (.int .i64 c.c)) (.int .i64 c.d)
    refine H0.out U _ _ _ _ _ _ _ _ _ _ _ _ _ _ _ _ _ _ _ _ _ _ _ _ _ _ ⟨by have := HN.out.below; (repeat' (first | (with_reducible exact Below.refl _ _) | (with_reducible assumption) | (with_reducible refine Below.alloc ?_ ?_ _) | (with_reducible refine Below.drew ?_) | (with_reducible refine bdn ?_ _) | (with_reducible refine Below.setCell ?_ ?_ _) | go_size)), by have := HN.out.big; simp [World.setCell]; omega, ?_⟩ hU1
    simp only [List.forall_mem_cons, List.not_mem_nil, false_imp_iff, implies_true, and_true]
    exact hU2
end Go.Proofs.YtajccjbigcdkbaaDoor
