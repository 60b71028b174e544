/- MeterTexts: a test of a line of the two reports (reps25b). -/
import Derived.Test.YtajccjbigcdkbaaDoorSd
-- USEBDN
set_option linter.unusedSimpArgs false
set_option linter.unusedVariables false
namespace Go.Proofs.YtajccjbigcdkbaaDoor
open Go.ChangeShapes Go.WideShapes Go.ChangeAt Go.RowKit

set_option maxRecDepth 100000 in
set_option maxHeartbeats 8000000 in
theorem reps25b (w0 W : World) (P Qb g7 c7 g9 c9 n i ln lm lc ld : Nat) (h00 : n < i) (hi : i < ln) (A X : ByteArray) (hsz : X.size = A.size) (pc qc nc kc : Array Value) (p0 : pc[0]? = some (.string A)) (p1 : pc[i]? = some (.string X))
    (hC : Mild.Bks w0.heap.size w0 [(P, .cells pc 9), (Qb, .cells qc 9), (g7, .cells nc 9), (g9, .cells kc 26)] W)
    (j0 j1 j2 j3 j4 j5 j8 j10 j11 j12 j13 j14 j15 j16 j20 j21 j22 j23 j24 j25 j26 j27 j28 j29 j30 j31 j32 j33 j34 j35 j36 j37 j38 j39 j40 j41 j42 j43 j44 j45 j46 j47 j48 j49 j50 j51 j52 j53 j54 j55 j56 j57 j58 j59 j60 j61 j62 j63 j64 j65 j66 j67 j68 j69 j70 j71 j72 j73 j74 j75 j76 j77 j78 j79 j80 j81 j82 j83 j84 j85 j86 j87 j88 j89 j90 j91 j92 j93 j94 j95 j96 j97 j98 j99 j100 j101 j102 j103 j104 j105 j106 j107 j108 j109 j110 j111 j112 j113 j114 j115 j116 j117 j118 j119 j120 j121 j122 j123 j124 j125 j126 j127 j128 j129 j130 j131 j132 j133 j134 j135 j136 j137 j138 j139 j140 j141 j142 j143 j144 j145 j146 j147 j148 j149 j150 j151 j152 j153 j154 j155 j156 j157 j158 j159 j160 j161 j162 j163 j164 j165 j166 j167 j168 j169 j170 j171 j172 j173 j174 j175 j176 j177 j178 j179 j180 j181 j182 j183 j184 j185 j186 j187 j188 j189 j190 j191 j192 j193 j194 j195 j196 j197 j198 j199 j200 j201 j202 j203 j204 j205 j206 j207 j208 j209 j210 j211 j212 j213 j214 j215 j216 j217 j218 j219 j220 j221 j222 j223 j224 j225 j226 j227 j228 j229 j230 j231 j232 j233 j234 j235 j236 j237 j238 j239 j240 j241 j242 j243 j244 j245 j246 j247 j248 j249 j250 j251 j252 j253 j254 : Value) (Q0 : Exit → Act → World → Prop)
    (h0 : ∀ j154 j155 j156 j157 j158 j159 j160 j161 j162 j163 j164 j165 j166 j167 j168 j169 j170 j171 j172 j173 j174 j175 j176 j177 j178 j179 j180 j181 j182 j183 j184 j185 j186 j187 j188 j189 j190 j191 j192 j193 j194 j195 j196 j197 j198 j199 j200 j201 j202 j203 j204 j205 j206 j207 j208 j209 j210 j211 j212 j213 j214 j215 j216 j217 j218 j219 j220 j221 j222 j223 j224 j225 j226 j227 j228 j229 j230 j231 j232 j233 j234 j235 j236 j237 j238 W', Mild.Bks w0.heap.size w0 [(P, .cells pc 9), (Qb, .cells qc 9), (g7, .cells nc 9), (g9, .cells kc 26)] W' → Q0 .normal { tmps := #[j0, j1, j2, j3, j4, j5, .int .i64 n, .slice (some ⟨g7, 0, none⟩) n c7, j8, .slice (some ⟨g9, 0, none⟩) n c9, j10, j11, j12, j13, j14, j15, j16, .slice (some ⟨P, 0, none⟩) ln lc, .slice (some ⟨Qb, 0, none⟩) lm ld, .int .i64 i, j20, j21, j22, j23, j24, j25, j26, j27, j28, j29, j30, j31, j32, j33, j34, j35, j36, j37, j38, j39, j40, j41, j42, j43, j44, j45, j46, j47, j48, j49, j50, j51, j52, j53, j54, j55, j56, j57, j58, j59, j60, j61, j62, j63, j64, j65, j66, j67, j68, j69, j70, j71, j72, j73, j74, j75, j76, j77, j78, j79, j80, j81, j82, j83, j84, j85, j86, j87, j88, j89, j90, j91, j92, j93, j94, j95, j96, j97, j98, j99, j100, j101, j102, j103, j104, j105, j106, j107, j108, j109, j110, j111, j112, j113, j114, j115, j116, j117, j118, j119, j120, j121, j122, j123, j124, j125, j126, j127, j128, j129, j130, j131, j132, j133, j134, j135, j136, j137, j138, j139, j140, j141, j142, j143, j144, j145, j146, j147, j148, j149, j150, j151, j152, j153, j154, j155, j156, j157, j158, j159, j160, j161, j162, j163, j164, j165, j166, j167, j168, j169, j170, j171, j172, j173, j174, j175, j176, j177, j178, j179, j180, j181, j182, j183, j184, j185, j186, j187, j188, j189, j190, j191, j192, j193, j194, j195, j196, j197, j198, j199, j200, j201, j202, j203, j204, j205, j206, j207, j208, j209, j210, j211, j212, j213, j214, j215, j216, j217, j218, j219, j220, j221, j222, j223, j224, j225, j226, j227, j228, j229, j230, j231, j232, j233, j234, j235, j236, j237, j238, .bool false, j240, j241, j242, j243, j244, j245, j246, j247, j248, j249, j250, j251, j252, j253, j254], defers := [] } W') :
    (navC [1, 1, 1, 1, 1, 1, 1, 1, 1, 1, 1, 0, 1, 1, 1, 1, 0, 1, 0] (Tryd.f5.body.getD .skip)).wp Tryd.prog Q0 { tmps := #[j0, j1, j2, j3, j4, j5, .int .i64 n, .slice (some ⟨g7, 0, none⟩) n c7, j8, .slice (some ⟨g9, 0, none⟩) n c9, j10, j11, j12, j13, j14, j15, j16, .slice (some ⟨P, 0, none⟩) ln lc, .slice (some ⟨Qb, 0, none⟩) lm ld, .int .i64 i, j20, j21, j22, j23, j24, j25, j26, j27, j28, j29, j30, j31, j32, j33, j34, j35, j36, j37, j38, j39, j40, j41, j42, j43, j44, j45, j46, j47, j48, j49, j50, j51, j52, j53, j54, j55, j56, j57, j58, j59, j60, j61, j62, j63, j64, j65, j66, j67, j68, j69, j70, j71, j72, j73, j74, j75, j76, j77, j78, j79, j80, j81, j82, j83, j84, j85, j86, j87, j88, j89, j90, j91, j92, j93, j94, j95, j96, j97, j98, j99, j100, j101, j102, j103, j104, j105, j106, j107, j108, j109, j110, j111, j112, j113, j114, j115, j116, j117, j118, j119, j120, j121, j122, j123, j124, j125, j126, j127, j128, j129, j130, j131, j132, j133, j134, j135, j136, j137, j138, j139, j140, j141, j142, j143, j144, j145, j146, j147, j148, j149, j150, j151, j152, j153, j154, j155, j156, j157, j158, j159, j160, j161, j162, j163, j164, j165, j166, j167, j168, j169, j170, j171, j172, j173, j174, j175, j176, j177, j178, j179, j180, j181, j182, j183, j184, j185, j186, j187, j188, j189, j190, j191, j192, j193, j194, j195, j196, j197, j198, j199, j200, j201, j202, j203, j204, j205, j206, j207, j208, j209, j210, j211, j212, j213, j214, j215, j216, j217, j218, j219, j220, j221, j222, j223, j224, j225, j226, j227, j228, j229, j230, j231, j232, j233, j234, j235, j236, j237, j238, j239, j240, j241, j242, j243, j244, j245, j246, j247, j248, j249, j250, j251, j252, j253, j254], defers := [] } W := by
  conv => arg 2; whnf
  have H0 := Lib.hid h0; clear h0
  have hl0 : (0 : Int) < ln := by omega
  have hl1 : (i : Int) < ln := by omega
  have hsz2 : ((X.size : Int) != (A.size : Int)) = false := by simp; omega
  have hd1 : decide (0 < i) = true := by simp; omega
  have hd2 : decide (i ≤ n) = false := by simp; omega
  have HP := Lib.hid (And.intro p0 p1)
  clear p0 p1 hsz hi h00
  refine Mild.region_mild 85 [] (Mild.Bks w0.heap.size w0 [(P, .cells pc 9), (Qb, .cells qc 9), (g7, .cells nc 9), (g9, .cells kc 26)]) (by kernel_rfl) 255 (by kernel_rfl) rfl (by simp) Mild.Bks.closed hC (by simp) ?H
  clear hC
  apply Exists.intro
  refine ⟨?HW, ?HT⟩
  case HW =>
    intro W hW
    have hb := hW.blocks
    simp only [List.forall_mem_cons, List.not_mem_nil, false_imp_iff, implies_true, and_true] at hb
    have d0 := (Mild.cell_of_block hb.1 0).trans HP.out.1
    have d1 := (Mild.cell_of_block hb.1 i).trans HP.out.2
    clear hb hW
    simp only [List.take_succ_cons, List.take_zero]
    apply Mild.walkM_q rfl
    go_wp2
    refine ⟨rfl, rfl, Below.refl _ _, ?_⟩
    apply Mild.walkM_q rfl
    go_wp2
    refine ⟨rfl, rfl, Below.refl _ _, ?_⟩
    apply Mild.walkM_q rfl
    go_wp2
    refine ⟨rfl, rfl, Below.refl _ _, ?_⟩
    apply Mild.walkM_q rfl
    go_wp2
    refine ⟨rfl, rfl, Below.refl _ _, ?_⟩
    apply Mild.walkM_q rfl
    go_wp2
    refine ⟨rfl, rfl, Below.refl _ _, ?_⟩
    apply Mild.walkM_q rfl
    go_wp2
    refine ⟨rfl, rfl, Below.refl _ _, ?_⟩
    apply Mild.walkM_q rfl
    go_wp2
    refine ⟨rfl, rfl, Below.refl _ _, ?_⟩
    apply Mild.walkM_q rfl
    go_wp2
    refine ⟨rfl, rfl, Below.refl _ _, ?_⟩
    apply Mild.walkM_q rfl
    go_wp2
    refine ⟨rfl, rfl, Below.refl _ _, ?_⟩
    apply Mild.walkM_q rfl
    go_wp2
    refine ⟨rfl, rfl, Below.refl _ _, ?_⟩
    apply Mild.walkM_q rfl
    go_wp2
    refine ⟨rfl, rfl, Below.refl _ _, ?_⟩
    apply Mild.walkM_q rfl
    go_wp2
    refine ⟨rfl, rfl, Below.refl _ _, ?_⟩
    apply Mild.walkM_q rfl
    go_wp2
    refine ⟨rfl, rfl, Below.refl _ _, ?_⟩
    apply Mild.walkM_q rfl
    go_wp2
    refine ⟨rfl, rfl, Below.refl _ _, ?_⟩
    apply Mild.walkM_q rfl
    go_wp2
    refine ⟨rfl, rfl, Below.refl _ _, ?_⟩
    apply Mild.walkM_q rfl
    go_wp2
    refine ⟨rfl, rfl, Below.refl _ _, ?_⟩
    apply Mild.walkM_q rfl
    go_wp2
    refine ⟨rfl, rfl, Below.refl _ _, ?_⟩
    apply Mild.walkM_q rfl
    go_wp2
    refine ⟨rfl, rfl, Below.refl _ _, ?_⟩
    apply Mild.walkM_q rfl
    go_wp2
    refine ⟨rfl, rfl, Below.refl _ _, ?_⟩
    apply Mild.walkM_q rfl
    go_wp2
    refine ⟨rfl, rfl, Below.refl _ _, ?_⟩
    apply Mild.walkM_q rfl
    go_wp2
    refine ⟨rfl, rfl, Below.refl _ _, ?_⟩
    apply Mild.walkM_q rfl
    go_wp2
    refine ⟨rfl, rfl, Below.refl _ _, ?_⟩
    apply Mild.walkM_q rfl
    go_wp2
    refine ⟨rfl, rfl, Below.refl _ _, ?_⟩
    apply Mild.walkM_q rfl
    go_wp2
    refine ⟨rfl, rfl, Below.refl _ _, ?_⟩
    apply Mild.walkM_q rfl
    go_wp2
    refine ⟨rfl, rfl, Below.refl _ _, ?_⟩
    apply Mild.walkM_q rfl
    go_wp2
    refine ⟨rfl, rfl, Below.refl _ _, ?_⟩
    apply Mild.walkM_q rfl
    go_wp2
    refine ⟨rfl, rfl, Below.refl _ _, ?_⟩
    apply Mild.walkM_q rfl
    go_wp2
    refine ⟨rfl, rfl, Below.refl _ _, ?_⟩
    apply Mild.walkM_q rfl
    go_wp2
    refine ⟨rfl, rfl, Below.refl _ _, ?_⟩
    apply Mild.walkM_q rfl
    go_wp2
    refine ⟨rfl, rfl, Below.refl _ _, ?_⟩
    apply Mild.walkM_q rfl
    go_wp2
    refine ⟨rfl, rfl, Below.refl _ _, ?_⟩
    apply Mild.walkM_q rfl
    go_wp2
    refine ⟨rfl, rfl, Below.refl _ _, ?_⟩
    apply Mild.walkM_q rfl
    go_wp2
    refine ⟨rfl, rfl, Below.refl _ _, ?_⟩
    apply Mild.walkM_q rfl
    go_wp2
    refine ⟨rfl, rfl, Below.refl _ _, ?_⟩
    apply Mild.walkM_q rfl
    go_wp2
    refine ⟨rfl, rfl, Below.refl _ _, ?_⟩
    apply Mild.walkM_q rfl
    go_wp2
    refine ⟨rfl, rfl, Below.refl _ _, ?_⟩
    apply Mild.walkM_q rfl
    go_wp2
    refine ⟨rfl, rfl, Below.refl _ _, ?_⟩
    apply Mild.walkM_q rfl
    go_wp2
    refine ⟨rfl, rfl, Below.refl _ _, ?_⟩
    apply Mild.walkM_q rfl
    go_wp2
    refine ⟨rfl, rfl, Below.refl _ _, ?_⟩
    apply Mild.walkM_q rfl
    go_wp2
    refine ⟨rfl, rfl, Below.refl _ _, ?_⟩
    apply Mild.walkM_q rfl
    go_wp2
    refine ⟨rfl, rfl, Below.refl _ _, ?_⟩
    apply Mild.walkM_q rfl
    go_wp2
    refine ⟨rfl, rfl, Below.refl _ _, ?_⟩
    apply Mild.walkM_q rfl
    go_wp2
    refine ⟨rfl, rfl, Below.refl _ _, ?_⟩
    apply Mild.walkM_q rfl
    go_wp2
    refine ⟨rfl, rfl, Below.refl _ _, ?_⟩
    apply Mild.walkM_q rfl
    go_wp2
    refine ⟨rfl, rfl, Below.refl _ _, ?_⟩
    apply Mild.walkM_q rfl
    go_wp2
    refine ⟨rfl, rfl, Below.refl _ _, ?_⟩
    apply Mild.walkM_q rfl
    go_wp2
    refine ⟨rfl, rfl, Below.refl _ _, ?_⟩
    apply Mild.walkM_q rfl
    go_wp2
    refine ⟨rfl, rfl, Below.refl _ _, ?_⟩
    apply Mild.walkM_q rfl
    go_wp2
    refine ⟨rfl, rfl, Below.refl _ _, ?_⟩
    apply Mild.walkM_q rfl
    go_wp2
    refine ⟨rfl, rfl, Below.refl _ _, ?_⟩
    apply Mild.walkM_q rfl
    go_wp2
    refine ⟨rfl, rfl, Below.refl _ _, ?_⟩
    apply Mild.walkM_q rfl
    go_wp2
    refine ⟨rfl, rfl, Below.refl _ _, ?_⟩
    apply Mild.walkM_q rfl
    go_wp2
    refine ⟨rfl, rfl, Below.refl _ _, ?_⟩
    apply Mild.walkM_q rfl
    go_wp2
    refine ⟨rfl, rfl, Below.refl _ _, ?_⟩
    apply Mild.walkM_q rfl
    go_wp2
    refine ⟨rfl, rfl, Below.refl _ _, ?_⟩
    apply Mild.walkM_q rfl
    go_wp2
    refine ⟨rfl, rfl, Below.refl _ _, ?_⟩
    apply Mild.walkM_q rfl
    go_wp2
    refine ⟨rfl, rfl, Below.refl _ _, ?_⟩
    apply Mild.walkM_q rfl
    go_wp2
    refine ⟨rfl, rfl, Below.refl _ _, ?_⟩
    apply Mild.walkM_q rfl
    go_wp2
    refine ⟨rfl, rfl, Below.refl _ _, ?_⟩
    apply Mild.walkM_q rfl
    go_wp2
    refine ⟨rfl, rfl, Below.refl _ _, ?_⟩
    apply Mild.walkM_q rfl
    go_wp2
    refine ⟨rfl, rfl, Below.refl _ _, ?_⟩
    apply Mild.walkM_q rfl
    go_wp2
    refine ⟨rfl, rfl, Below.refl _ _, ?_⟩
    apply Mild.walkM_q rfl
    go_wp2
    refine ⟨rfl, rfl, Below.refl _ _, ?_⟩
    apply Mild.walkM_q rfl
    go_wp2
    refine ⟨rfl, rfl, Below.refl _ _, ?_⟩
    apply Mild.walkM_q rfl
    go_wp2
    refine ⟨rfl, rfl, Below.refl _ _, ?_⟩
    apply Mild.walkM_q rfl
    go_wp2
    refine ⟨rfl, rfl, Below.refl _ _, ?_⟩
    apply Mild.walkM_q rfl
    go_wp2
    refine ⟨rfl, rfl, Below.refl _ _, ?_⟩
    apply Mild.walkM_q rfl
    go_wp2
    refine ⟨rfl, rfl, Below.refl _ _, ?_⟩
    apply Mild.walkM_q rfl
    go_wp2
    refine ⟨rfl, rfl, Below.refl _ _, ?_⟩
    apply Mild.walkM_q rfl
    go_wp2
    refine ⟨rfl, rfl, Below.refl _ _, ?_⟩
    apply Mild.walkM_q rfl
    go_wp2
    refine ⟨rfl, rfl, Below.refl _ _, ?_⟩
    apply Mild.walkM_q rfl
    go_wp2
    refine ⟨rfl, rfl, Below.refl _ _, ?_⟩
    apply Mild.walkM_q rfl
    go_wp2
    refine ⟨rfl, rfl, Below.refl _ _, ?_⟩
    apply Mild.walkM_q rfl
    go_wp2
    refine ⟨rfl, rfl, Below.refl _ _, ?_⟩
    apply Mild.walkM_q rfl
    go_wp2
    refine ⟨rfl, rfl, Below.refl _ _, ?_⟩
    apply Mild.walkM_q rfl
    go_wp2
    refine ⟨rfl, rfl, Below.refl _ _, ?_⟩
    apply Mild.walkM_q rfl
    go_wp2
    refine ⟨rfl, rfl, Below.refl _ _, ?_⟩
    apply Mild.walkM_q rfl
    go_wp2
    refine ⟨rfl, rfl, Below.refl _ _, ?_⟩
    apply Mild.walkM_q rfl
    go_wp2
    refine ⟨rfl, rfl, Below.refl _ _, ?_⟩
    apply Mild.walkM_q rfl
    go_wp2
    refine ⟨rfl, rfl, Below.refl _ _, ?_⟩
    apply Mild.walkM_q rfl
    go_wp2
    refine ⟨rfl, rfl, Below.refl _ _, ?_⟩
    apply Mild.walkM_q rfl
    go_wp2
    refine ⟨rfl, rfl, Below.refl _ _, ?_⟩
    apply Mild.walkM_q rfl
    go_wp2
    refine ⟨rfl, rfl, Below.refl _ _, ?_⟩
    apply Mild.walkM_q rfl
    go_wp2
    refine ⟨rfl, rfl, Below.refl _ _, ?_⟩
    apply Mild.walkM_q rfl
    go_wp2
    refine ⟨rfl, rfl, Below.refl _ _, ?_⟩
    exact Mild.walkM_end rfl
  case HT =>
    intro F w2 hC2 _ _
    simp only [List.drop_succ_cons, List.drop_zero, Mild.putAll, List.foldl_cons, List.foldl_nil, Mild.ptrTo, Act.put, List.setIfInBounds_toArray, List.set_cons_zero, List.set_cons_succ]
    have HC2 := Lib.hid hC2; clear hC2
    go_wp2
    exact H0.out _ _ _ _ _ _ _ _ _ _ _ _ _ _ _ _ _ _ _ _ _ _ _ _ _ _ _ _ _ _ _ _ _ _ _ _ _ _ _ _ _ _ _ _ _ _ _ _ _ _ _ _ _ _ _ _ _ _ _ _ _ _ _ _ _ _ _ _ _ _ _ _ _ _ _ _ _ _ _ _ _ _ _ _ _ _ HC2.out
end Go.Proofs.YtajccjbigcdkbaaDoor
