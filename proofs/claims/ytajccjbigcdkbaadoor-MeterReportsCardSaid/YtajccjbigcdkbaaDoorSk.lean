/- MeterTexts: the first test of the two reports. -/
import Derived.Test.YtajccjbigcdkbaaDoorSd
-- USEBDN
set_option linter.unusedSimpArgs false
set_option linter.unusedVariables false
namespace Go.Proofs.YtajccjbigcdkbaaDoor
open Go.ChangeShapes Go.WideShapes Go.ChangeAt Go.RowKit

set_option maxRecDepth 100000 in
set_option maxHeartbeats 4000000 in
theorem reps20 (w0 W : World) (R T P Qb n ln lm lc ld : Nat) (hn : n ≤ 9) (hln : ln = n + 2) (hlm : lm = n + 2) (s1 s2 A Z : ByteArray) (pc qc : Array Value) (p0 : pc[0]? = some (.string A)) (q0 : qc[0]? = some (.string A)) (p1 : pc[n + 1]? = some (.string Z)) (q1 : qc[n + 1]? = some (.string Z))
    (hC : Mild.Bks w0.heap.size w0 [(R, .cells #[.string s1, .int .i64 0] 47), (T, .cells #[.string s2, .int .i64 0] 47), (P, .cells pc 9), (Qb, .cells qc 9)] W)
    (j0 j1 j2 j3 j4 j5 j7 j8 j9 j10 j11 j12 j13 j14 j19 j20 j21 j22 j23 j24 j25 j26 j27 j28 j29 j30 j31 j32 j33 j34 j35 j36 j37 j38 j39 j40 j41 j42 j43 j44 j45 j46 j47 j48 j49 j50 j51 j52 j53 j54 j55 j56 j57 j58 j59 j60 j61 j62 j63 j64 j65 j66 j67 j68 j69 j70 j71 j72 j73 j74 j75 j76 j77 j78 j79 j80 j81 j82 j83 j84 j85 j86 j87 j88 j89 j90 j91 j92 j93 j94 j95 j96 j97 j98 j99 j100 j101 j102 j103 j104 j105 j106 j107 j108 j109 j110 j111 j112 j113 j114 j115 j116 j117 j118 j119 j120 j121 j122 j123 j124 j125 j126 j127 j128 j129 j130 j131 j132 j133 j134 j135 j136 j137 j138 j139 j140 j141 j142 j143 j144 j145 j146 j147 j148 j149 j150 j151 j152 j153 j154 j155 j156 j157 j158 j159 j160 j161 j162 j163 j164 j165 j166 j167 j168 j169 j170 j171 j172 j173 j174 j175 j176 j177 j178 j179 j180 j181 j182 j183 j184 j185 j186 j187 j188 j189 j190 j191 j192 j193 j194 j195 j196 j197 j198 j199 j200 j201 j202 j203 j204 j205 j206 j207 j208 j209 j210 j211 j212 j213 j214 j215 j216 j217 j218 j219 j220 j221 j222 j223 j224 j225 j226 j227 j228 j229 j230 j231 j232 j233 j234 j235 j236 j237 j238 j239 j240 j241 j242 j243 j244 j245 j246 j247 j248 j249 j250 j251 j252 j253 j254 : Value) (Q0 : Exit → Act → World → Prop)
    (h0 : ∀ j104 j105 j106 j107 j108 j109 j110 j111 j112 j113 j114 j115 j116 j117 j118 j119 j120 j121 j122 j123 j124 j125 j126 j127 j128 j129 j130 j131 j132 j133 j134 j135 j136 j137 j138 j139 j140 j141 j142 j143 j144 j145 j146 W', Mild.Bks w0.heap.size w0 [(R, .cells #[.string s1, .int .i64 0] 47), (T, .cells #[.string s2, .int .i64 0] 47), (P, .cells pc 9), (Qb, .cells qc 9)] W' → Q0 .normal { tmps := #[j0, j1, j2, j3, j4, j5, .int .i64 n, j7, j8, j9, j10, j11, j12, j13, j14, pt R 0, pt T 0, .slice (some ⟨P, 0, none⟩) ln lc, .slice (some ⟨Qb, 0, none⟩) lm ld, j19, j20, j21, j22, j23, j24, j25, j26, j27, j28, j29, j30, j31, j32, j33, j34, j35, j36, j37, j38, j39, j40, j41, j42, j43, j44, j45, j46, j47, j48, j49, j50, j51, j52, j53, j54, j55, j56, j57, j58, j59, j60, j61, j62, j63, j64, j65, j66, j67, j68, j69, j70, j71, j72, j73, j74, j75, j76, j77, j78, j79, j80, j81, j82, j83, j84, j85, j86, j87, j88, j89, j90, j91, j92, j93, j94, j95, j96, j97, j98, j99, j100, j101, j102, j103, j104, j105, j106, j107, j108, j109, j110, j111, j112, j113, j114, j115, j116, j117, j118, j119, j120, j121, j122, j123, j124, j125, j126, j127, j128, j129, j130, j131, j132, j133, j134, j135, j136, j137, j138, j139, j140, j141, j142, j143, j144, j145, j146, .bool false, j148, j149, j150, j151, j152, j153, j154, j155, j156, j157, j158, j159, j160, j161, j162, j163, j164, j165, j166, j167, j168, j169, j170, j171, j172, j173, j174, j175, j176, j177, j178, j179, j180, j181, j182, j183, j184, j185, j186, j187, j188, j189, j190, j191, j192, j193, j194, j195, j196, j197, j198, j199, j200, j201, j202, j203, j204, j205, j206, j207, j208, j209, j210, j211, j212, j213, j214, j215, j216, j217, j218, j219, j220, j221, j222, j223, j224, j225, j226, j227, j228, j229, j230, j231, j232, j233, j234, j235, j236, j237, j238, j239, j240, j241, j242, j243, j244, j245, j246, j247, j248, j249, j250, j251, j252, j253, j254], defers := [] } W') :
    (navC [1, 1, 1, 1, 1, 1, 1, 1, 1, 1, 0, 0] (Tryd.f5.body.getD .skip)).wp Tryd.prog Q0 { tmps := #[j0, j1, j2, j3, j4, j5, .int .i64 n, j7, j8, j9, j10, j11, j12, j13, j14, pt R 0, pt T 0, .slice (some ⟨P, 0, none⟩) ln lc, .slice (some ⟨Qb, 0, none⟩) lm ld, j19, j20, j21, j22, j23, j24, j25, j26, j27, j28, j29, j30, j31, j32, j33, j34, j35, j36, j37, j38, j39, j40, j41, j42, j43, j44, j45, j46, j47, j48, j49, j50, j51, j52, j53, j54, j55, j56, j57, j58, j59, j60, j61, j62, j63, j64, j65, j66, j67, j68, j69, j70, j71, j72, j73, j74, j75, j76, j77, j78, j79, j80, j81, j82, j83, j84, j85, j86, j87, j88, j89, j90, j91, j92, j93, j94, j95, j96, j97, j98, j99, j100, j101, j102, j103, j104, j105, j106, j107, j108, j109, j110, j111, j112, j113, j114, j115, j116, j117, j118, j119, j120, j121, j122, j123, j124, j125, j126, j127, j128, j129, j130, j131, j132, j133, j134, j135, j136, j137, j138, j139, j140, j141, j142, j143, j144, j145, j146, j147, j148, j149, j150, j151, j152, j153, j154, j155, j156, j157, j158, j159, j160, j161, j162, j163, j164, j165, j166, j167, j168, j169, j170, j171, j172, j173, j174, j175, j176, j177, j178, j179, j180, j181, j182, j183, j184, j185, j186, j187, j188, j189, j190, j191, j192, j193, j194, j195, j196, j197, j198, j199, j200, j201, j202, j203, j204, j205, j206, j207, j208, j209, j210, j211, j212, j213, j214, j215, j216, j217, j218, j219, j220, j221, j222, j223, j224, j225, j226, j227, j228, j229, j230, j231, j232, j233, j234, j235, j236, j237, j238, j239, j240, j241, j242, j243, j244, j245, j246, j247, j248, j249, j250, j251, j252, j253, j254], defers := [] } W := by
  conv => arg 2; whnf
  have H0 := Lib.hid h0; clear h0
  have hl1 : (ln : Int) = (n : Int) + 2 := by omega
  have hl2 : (lm : Int) = (n : Int) + 2 := by omega
  have hn9 : (n : Int) ≤ 9 := by omega
  have HP := Lib.hid (And.intro p0 (And.intro q0 (And.intro p1 q1)))
  clear p0 q0 p1 q1 hln hlm
  refine Mild.region_mild 43 [] (Mild.Bks w0.heap.size w0 [(R, .cells #[.string s1, .int .i64 0] 47), (T, .cells #[.string s2, .int .i64 0] 47), (P, .cells pc 9), (Qb, .cells qc 9)]) (by kernel_rfl) 255 (by kernel_rfl) rfl (by simp) Mild.Bks.closed hC (by simp) ?H
  apply Exists.intro
  refine ⟨?HW, ?HT⟩
  case HW =>
    intro W hW
    have hb := hW.blocks
    simp only [List.forall_mem_cons, List.not_mem_nil, false_imp_iff, implies_true, and_true] at hb
    obtain ⟨b0, b1, b2, b3⟩ := hb
    have c0 := Mild.cell_of_block b0
    have c1 := Mild.cell_of_block b1
    have d0 := (Mild.cell_of_block b2 0).trans HP.out.1
    have d1 := (Mild.cell_of_block b3 0).trans HP.out.2.1
    have d2 := (Mild.cell_of_block b2 (n + 1)).trans HP.out.2.2.1
    have d3 := (Mild.cell_of_block b3 (n + 1)).trans HP.out.2.2.2
    clear b0 b1 b2 b3 hW
    simp only [List.take_succ_cons, List.take_zero]
    apply Mild.walkM_q rfl
    go_wp2
    refine ⟨rfl, rfl, Below.refl _ _, ?_⟩
    apply Mild.walkM_q rfl
    go_wp2
    refine ⟨rfl, rfl, Below.refl _ _, ?_⟩
    apply Mild.walkM_q rfl
    go_wp2
    refine ⟨rfl, rfl, Below.refl _ _, ?_⟩
    apply Mild.walkM_q rfl
    go_wp2
    refine ⟨rfl, rfl, Below.refl _ _, ?_⟩
    apply Mild.walkM_q rfl
    go_wp2
    refine ⟨rfl, rfl, Below.refl _ _, ?_⟩
    apply Mild.walkM_q rfl
    go_wp2
    refine ⟨rfl, rfl, Below.refl _ _, ?_⟩
    apply Mild.walkM_q rfl
    go_wp2
    refine ⟨rfl, rfl, Below.refl _ _, ?_⟩
    apply Mild.walkM_q rfl
    go_wp2
    refine ⟨rfl, rfl, Below.refl _ _, ?_⟩
    apply Mild.walkM_q rfl
    go_wp2
    refine ⟨rfl, rfl, Below.refl _ _, ?_⟩
    apply Mild.walkM_q rfl
    go_wp2
    refine ⟨rfl, rfl, Below.refl _ _, ?_⟩
    apply Mild.walkM_q rfl
    go_wp2
    refine ⟨rfl, rfl, Below.refl _ _, ?_⟩
    apply Mild.walkM_q rfl
    go_wp2
    refine ⟨rfl, rfl, Below.refl _ _, ?_⟩
    apply Mild.walkM_q rfl
    go_wp2
    refine ⟨rfl, rfl, Below.refl _ _, ?_⟩
    apply Mild.walkM_q rfl
    go_wp2
    refine ⟨rfl, rfl, Below.refl _ _, ?_⟩
    apply Mild.walkM_q rfl
    go_wp2
    refine ⟨rfl, rfl, Below.refl _ _, ?_⟩
    apply Mild.walkM_q rfl
    go_wp2
    refine ⟨rfl, rfl, Below.refl _ _, ?_⟩
    apply Mild.walkM_q rfl
    go_wp2
    refine ⟨rfl, rfl, Below.refl _ _, ?_⟩
    apply Mild.walkM_q rfl
    go_wp2
    refine ⟨rfl, rfl, Below.refl _ _, ?_⟩
    apply Mild.walkM_q rfl
    go_wp2
    refine ⟨rfl, rfl, Below.refl _ _, ?_⟩
    apply Mild.walkM_q rfl
    go_wp2
    refine ⟨rfl, rfl, Below.refl _ _, ?_⟩
    apply Mild.walkM_q rfl
    go_wp2
    refine ⟨rfl, rfl, Below.refl _ _, ?_⟩
    apply Mild.walkM_q rfl
    go_wp2
    refine ⟨rfl, rfl, Below.refl _ _, ?_⟩
    apply Mild.walkM_q rfl
    go_wp2
    refine ⟨rfl, rfl, Below.refl _ _, ?_⟩
    apply Mild.walkM_q rfl
    go_wp2
    refine ⟨rfl, rfl, Below.refl _ _, ?_⟩
    apply Mild.walkM_q rfl
    go_wp2
    refine ⟨rfl, rfl, Below.refl _ _, ?_⟩
    apply Mild.walkM_q rfl
    go_wp2
    refine ⟨rfl, rfl, Below.refl _ _, ?_⟩
    apply Mild.walkM_q rfl
    go_wp2
    refine ⟨rfl, rfl, Below.refl _ _, ?_⟩
    apply Mild.walkM_q rfl
    go_wp2
    refine ⟨rfl, rfl, Below.refl _ _, ?_⟩
    apply Mild.walkM_q rfl
    go_wp2
    refine ⟨rfl, rfl, Below.refl _ _, ?_⟩
    apply Mild.walkM_q rfl
    go_wp2
    refine ⟨rfl, rfl, Below.refl _ _, ?_⟩
    apply Mild.walkM_q rfl
    go_wp2
    refine ⟨rfl, rfl, Below.refl _ _, ?_⟩
    apply Mild.walkM_q rfl
    go_wp2
    refine ⟨rfl, rfl, Below.refl _ _, ?_⟩
    apply Mild.walkM_q rfl
    go_wp2
    refine ⟨rfl, rfl, Below.refl _ _, ?_⟩
    apply Mild.walkM_q rfl
    go_wp2
    refine ⟨rfl, rfl, Below.refl _ _, ?_⟩
    apply Mild.walkM_q rfl
    go_wp2
    refine ⟨rfl, rfl, Below.refl _ _, ?_⟩
    apply Mild.walkM_q rfl
    go_wp2
    refine ⟨rfl, rfl, Below.refl _ _, ?_⟩
    apply Mild.walkM_q rfl
    go_wp2
    refine ⟨rfl, rfl, Below.refl _ _, ?_⟩
    apply Mild.walkM_q rfl
    go_wp2
    refine ⟨rfl, rfl, Below.refl _ _, ?_⟩
    apply Mild.walkM_q rfl
    go_wp2
    refine ⟨rfl, rfl, Below.refl _ _, ?_⟩
    apply Mild.walkM_q rfl
    go_wp2
    refine ⟨rfl, rfl, Below.refl _ _, ?_⟩
    apply Mild.walkM_q rfl
    go_wp2
    refine ⟨rfl, rfl, Below.refl _ _, ?_⟩
    apply Mild.walkM_q rfl
    go_wp2
    refine ⟨rfl, rfl, Below.refl _ _, ?_⟩
    apply Mild.walkM_q rfl
    go_wp2
    refine ⟨rfl, rfl, Below.refl _ _, ?_⟩
    exact Mild.walkM_end rfl
  case HT =>
    intro F w2 hC2 _ _
    simp only [List.drop_succ_cons, List.drop_zero, Mild.putAll, List.foldl_cons, List.foldl_nil, Mild.ptrTo, Act.put, List.setIfInBounds_toArray, List.set_cons_zero, List.set_cons_succ]
    have HC2 := Lib.hid hC2; clear hC2
    go_wp2
    exact H0.out _ _ _ _ _ _ _ _ _ _ _ _ _ _ _ _ _ _ _ _ _ _ _ _ _ _ _ _ _ _ _ _ _ _ _ _ _ _ _ _ _ _ _ _ HC2.out
end Go.Proofs.YtajccjbigcdkbaaDoor
namespace Go.Proofs.YtajccjbigcdkbaaDoor
open Go.ChangeShapes Go.WideShapes Go.ChangeAt Go.RowKit
def IsLines (w0 : World) (ls : List ByteArray) (v : Value) (lo hi : Nat) (W : World) : Prop := W.ownsRow w0.heap.size 9 1 v ls.length (ls.map Value.string)

set_option maxRecDepth 100000 in
set_option maxHeartbeats 4000000 in
theorem reps19 (w0 W : World) (R T : Nat) (s1 s2 : ByteArray) (l1 l2 : List ByteArray) (z1 : s1.size < 4294967281) (z2 : s2.size < 4294967281) (d1 : s1.data.toList = flat l1) (d2 : s2.data.toList = flat l2) (o1 : ∀ l ∈ l1, ∀ b ∈ l.data.toList, b ≠ 10) (o2 : ∀ l ∈ l2, ∀ b ∈ l.data.toList, b ≠ 10)
    (hC : Mild.Bks w0.heap.size w0 [(R, .cells #[.string s1, .int .i64 0] 47), (T, .cells #[.string s2, .int .i64 0] 47)] W)
    (j0 j1 j2 j3 j4 j5 j6 j7 j8 j9 j10 j11 j12 j13 j14 j17 j18 j19 j20 j21 j22 j23 j24 j25 j26 j27 j28 j29 j30 j31 j32 j33 j34 j35 j36 j37 j38 j39 j40 j41 j42 j43 j44 j45 j46 j47 j48 j49 j50 j51 j52 j53 j54 j55 j56 j57 j58 j59 j60 j61 j62 j63 j64 j65 j66 j67 j68 j69 j70 j71 j72 j73 j74 j75 j76 j77 j78 j79 j80 j81 j82 j83 j84 j85 j86 j87 j88 j89 j90 j91 j92 j93 j94 j95 j96 j97 j98 j99 j100 j101 j102 j103 j104 j105 j106 j107 j108 j109 j110 j111 j112 j113 j114 j115 j116 j117 j118 j119 j120 j121 j122 j123 j124 j125 j126 j127 j128 j129 j130 j131 j132 j133 j134 j135 j136 j137 j138 j139 j140 j141 j142 j143 j144 j145 j146 j147 j148 j149 j150 j151 j152 j153 j154 j155 j156 j157 j158 j159 j160 j161 j162 j163 j164 j165 j166 j167 j168 j169 j170 j171 j172 j173 j174 j175 j176 j177 j178 j179 j180 j181 j182 j183 j184 j185 j186 j187 j188 j189 j190 j191 j192 j193 j194 j195 j196 j197 j198 j199 j200 j201 j202 j203 j204 j205 j206 j207 j208 j209 j210 j211 j212 j213 j214 j215 j216 j217 j218 j219 j220 j221 j222 j223 j224 j225 j226 j227 j228 j229 j230 j231 j232 j233 j234 j235 j236 j237 j238 j239 j240 j241 j242 j243 j244 j245 j246 j247 j248 j249 j250 j251 j252 j253 j254 : Value) (Q0 : Exit → Act → World → Prop)
    (h0 : ∀ u17 u18 j98 j99 j100 j101 j102 j103 W', Mild.Bks w0.heap.size w0 [(R, .cells #[.string s1, .int .i64 0] 47), (T, .cells #[.string s2, .int .i64 0] 47)] W' → W'.ownsRow w0.heap.size 9 1 u17 l1.length (l1.map Value.string) → W'.ownsRow w0.heap.size 9 1 u18 l2.length (l2.map Value.string) → Q0 .normal { tmps := #[j0, j1, j2, j3, j4, j5, j6, j7, j8, j9, j10, j11, j12, j13, j14, pt R 0, pt T 0, u17, u18, j19, j20, j21, j22, j23, j24, j25, j26, j27, j28, j29, j30, j31, j32, j33, j34, j35, j36, j37, j38, j39, j40, j41, j42, j43, j44, j45, j46, j47, j48, j49, j50, j51, j52, j53, j54, j55, j56, j57, j58, j59, j60, j61, j62, j63, j64, j65, j66, j67, j68, j69, j70, j71, j72, j73, j74, j75, j76, j77, j78, j79, j80, j81, j82, j83, j84, j85, j86, j87, j88, j89, j90, j91, j92, j93, j94, j95, j96, j97, j98, j99, j100, j101, j102, j103, j104, j105, j106, j107, j108, j109, j110, j111, j112, j113, j114, j115, j116, j117, j118, j119, j120, j121, j122, j123, j124, j125, j126, j127, j128, j129, j130, j131, j132, j133, j134, j135, j136, j137, j138, j139, j140, j141, j142, j143, j144, j145, j146, j147, j148, j149, j150, j151, j152, j153, j154, j155, j156, j157, j158, j159, j160, j161, j162, j163, j164, j165, j166, j167, j168, j169, j170, j171, j172, j173, j174, j175, j176, j177, j178, j179, j180, j181, j182, j183, j184, j185, j186, j187, j188, j189, j190, j191, j192, j193, j194, j195, j196, j197, j198, j199, j200, j201, j202, j203, j204, j205, j206, j207, j208, j209, j210, j211, j212, j213, j214, j215, j216, j217, j218, j219, j220, j221, j222, j223, j224, j225, j226, j227, j228, j229, j230, j231, j232, j233, j234, j235, j236, j237, j238, j239, j240, j241, j242, j243, j244, j245, j246, j247, j248, j249, j250, j251, j252, j253, j254], defers := [] } W') :
    (navC [1, 1, 1, 1, 1, 1, 1, 1, 1, 0] (Tryd.f5.body.getD .skip)).wp Tryd.prog Q0 { tmps := #[j0, j1, j2, j3, j4, j5, j6, j7, j8, j9, j10, j11, j12, j13, j14, pt R 0, pt T 0, j17, j18, j19, j20, j21, j22, j23, j24, j25, j26, j27, j28, j29, j30, j31, j32, j33, j34, j35, j36, j37, j38, j39, j40, j41, j42, j43, j44, j45, j46, j47, j48, j49, j50, j51, j52, j53, j54, j55, j56, j57, j58, j59, j60, j61, j62, j63, j64, j65, j66, j67, j68, j69, j70, j71, j72, j73, j74, j75, j76, j77, j78, j79, j80, j81, j82, j83, j84, j85, j86, j87, j88, j89, j90, j91, j92, j93, j94, j95, j96, j97, j98, j99, j100, j101, j102, j103, j104, j105, j106, j107, j108, j109, j110, j111, j112, j113, j114, j115, j116, j117, j118, j119, j120, j121, j122, j123, j124, j125, j126, j127, j128, j129, j130, j131, j132, j133, j134, j135, j136, j137, j138, j139, j140, j141, j142, j143, j144, j145, j146, j147, j148, j149, j150, j151, j152, j153, j154, j155, j156, j157, j158, j159, j160, j161, j162, j163, j164, j165, j166, j167, j168, j169, j170, j171, j172, j173, j174, j175, j176, j177, j178, j179, j180, j181, j182, j183, j184, j185, j186, j187, j188, j189, j190, j191, j192, j193, j194, j195, j196, j197, j198, j199, j200, j201, j202, j203, j204, j205, j206, j207, j208, j209, j210, j211, j212, j213, j214, j215, j216, j217, j218, j219, j220, j221, j222, j223, j224, j225, j226, j227, j228, j229, j230, j231, j232, j233, j234, j235, j236, j237, j238, j239, j240, j241, j242, j243, j244, j245, j246, j247, j248, j249, j250, j251, j252, j253, j254], defers := [] } W := by
  conv => arg 2; whnf
  have H0 := Lib.hid h0; clear h0
  have HD := Lib.hid (And.intro d1 (And.intro d2 (And.intro o1 o2)))
  clear d1 d2 o1 o2
  refine Tell.region_told 6 [⟨2, 100, IsLines w0 l1⟩, ⟨5, 103, IsLines w0 l2⟩] (Mild.Bks w0.heap.size w0 [(R, .cells #[.string s1, .int .i64 0] 47), (T, .cells #[.string s2, .int .i64 0] 47)]) (by kernel_rfl) [(2, 100), (5, 103)] rfl 255 (by kernel_rfl) rfl (by simp) Mild.Bks.closed ?hR hC ?H
  case hR =>
    simp only [List.forall_mem_cons, List.not_mem_nil, false_imp_iff, implies_true, and_true]
    exact ⟨fun v x y W W' h hb => own_below h hb, fun v x y W W' h hb => own_below h hb⟩
  apply Exists.intro
  refine ⟨?HW, ?HA, ?HT⟩
  case HW =>
    intro vals W hW
    have hb := hW.blocks
    have hbg := hW.big
    simp only [List.forall_mem_cons, List.not_mem_nil, false_imp_iff, implies_true, and_true] at hb
    obtain ⟨b0, b1⟩ := hb
    have c0 := Mild.cell_of_block b0
    have c1 := Mild.cell_of_block b1
    clear hW b0 b1
    simp only [List.take_succ_cons, List.take_zero]
    iterate 2 (apply Tell.walk_q rfl rfl; go_wp2; refine ⟨rfl, rfl, Below.refl _ _, ?_⟩)
    refine Tell.walk_t ⟨2, 100, IsLines w0 l1⟩ (by simp) rfl (by simp) ?_ ?_
    · intro _
      go_wp2_with (go_at_call 15; refine (lines_any s1 l1 HD.out.1 HD.out.2.2.1 z1 _).mono ?_; rintro e w1 ⟨v, rfl, hown, hb⟩)
      exact ⟨rfl, rfl, hb, own_mono hown hbg⟩
    simp only [Act.put, List.setIfInBounds_toArray, List.set_cons_zero, List.set_cons_succ]
    iterate 2 (apply Tell.walk_q rfl rfl; go_wp2; refine ⟨rfl, rfl, Below.refl _ _, ?_⟩)
    refine Tell.walk_t ⟨5, 103, IsLines w0 l2⟩ (by simp) rfl (by simp) ?_ ?_
    · intro _
      go_wp2_with (go_at_call 15; refine (lines_any s2 l2 HD.out.2.1 HD.out.2.2.2 z2 _).mono ?_; rintro e w1 ⟨v, rfl, hown, hb⟩)
      exact ⟨rfl, rfl, hb, own_mono hown hbg⟩
    simp only [Act.put, List.setIfInBounds_toArray, List.set_cons_zero, List.set_cons_succ]
    exact Tell.walk_end rfl
  case HA => exact fun _ => rfl
  case HT =>
    intro vals lo hi w2 hC2 ht _
    simp only [List.forall_mem_cons, List.not_mem_nil, false_imp_iff, implies_true, and_true] at ht
    obtain ⟨⟨r1, _⟩, ⟨r2, _⟩⟩ := ht
    have HR := Lib.hid (And.intro (show w2.ownsRow w0.heap.size 9 1 (vals 2) l1.length (l1.map Value.string) from r1) (show w2.ownsRow w0.heap.size 9 1 (vals 5) l2.length (l2.map Value.string) from r2))
    clear r1 r2
    simp only [List.drop_succ_cons, List.drop_zero]
    have HC2 := Lib.hid hC2; clear hC2 hC
    go_wp2
    exact H0.out (vals 2) (vals 5) _ _ _ _ _ _ _ HC2.out HR.out.1 HR.out.2
end Go.Proofs.YtajccjbigcdkbaaDoor
