/- MeterTexts: a name of the report. -/
import Derived.Test.YtajccjbigcdkbaaDoorSd
import Derived.Test.YtajccjbigcdkbaaDoorSe
import Derived.Maps.AppendAt
-- USEBDN
set_option linter.unusedSimpArgs false
set_option linter.unusedVariables false
namespace Go.Proofs.YtajccjbigcdkbaaDoor
open Go.ChangeShapes Go.WideShapes Go.ChangeAt Go.RowKit
def abcB : ByteArray := ⟨#[65, 66, 67, 68, 69, 70, 71, 72, 73, 74]⟩
def exesB : ByteArray := ⟨#[120, 120, 120, 120, 120, 120, 120, 120, 120, 120, 120, 120, 120, 120, 120, 120, 120, 120, 120, 120]⟩
def nmB (r k : Nat) : ByteArray := abcB.extract k (k + 1) ++ exesB.extract 0 r

set_option maxRecDepth 100000 in
set_option maxHeartbeats 4000000 in
theorem reps12 (W : World) (wide k r : Nat) (hk : k < 9) (hw : wide < 256) (hr : wide * (k + 1) % 20 = r)
    (j0 j2 j3 j4 j5 j6 j7 j8 j9 j10 j11 j13 j14 j15 j16 j17 j18 j19 j20 j21 j22 j23 j24 j25 j26 j27 j28 j29 j30 j31 j32 j33 j34 j35 j36 j37 j38 j39 j40 j41 j42 j43 j44 j45 j46 j47 j48 j49 j50 j51 j52 j53 j54 j55 j56 j57 j58 j59 j60 j61 j62 j63 j64 j65 j66 j67 j68 j69 j70 j71 j72 j73 j74 j75 j76 j77 j78 j79 j80 j81 j82 j83 j84 j85 j86 j87 j88 j89 j90 j91 j92 j93 j94 j95 j96 j97 j98 j99 j100 j101 j102 j103 j104 j105 j106 j107 j108 j109 j110 j111 j112 j113 j114 j115 j116 j117 j118 j119 j120 j121 j122 j123 j124 j125 j126 j127 j128 j129 j130 j131 j132 j133 j134 j135 j136 j137 j138 j139 j140 j141 j142 j143 j144 j145 j146 j147 j148 j149 j150 j151 j152 j153 j154 j155 j156 j157 j158 j159 j160 j161 j162 j163 j164 j165 j166 j167 j168 j169 j170 j171 j172 j173 j174 j175 j176 j177 j178 j179 j180 j181 j182 j183 j184 j185 j186 j187 j188 j189 j190 j191 j192 j193 j194 j195 j196 j197 j198 j199 j200 j201 j202 j203 j204 j205 j206 j207 j208 j209 j210 j211 j212 j213 j214 j215 j216 j217 j218 j219 j220 j221 j222 j223 j224 j225 j226 j227 j228 j229 j230 j231 j232 j233 j234 j235 j236 j237 j238 j239 j240 j241 j242 j243 j244 j245 j246 j247 j248 j249 j250 j251 j252 j253 j254 : Value) (Q0 : Exit → Act → World → Prop)
    (h0 : ∀ j60 j61 j62 j63 j64 j65 j66 j67 j68 j69 j70 j71 W', Mild.Bks W.heap.size W [] W' → Q0 .normal { tmps := #[j0, .int .u8 wide, j2, j3, j4, j5, j6, j7, j8, j9, j10, j11, .int .i64 k, j13, .string (nmB r k), j15, j16, j17, j18, j19, j20, j21, j22, j23, j24, j25, j26, j27, j28, j29, j30, j31, j32, j33, j34, j35, j36, j37, j38, j39, j40, j41, j42, j43, j44, j45, j46, j47, j48, j49, j50, j51, j52, j53, j54, j55, j56, j57, j58, j59, j60, j61, j62, j63, j64, j65, j66, j67, j68, j69, j70, j71, j72, j73, j74, j75, j76, j77, j78, j79, j80, j81, j82, j83, j84, j85, j86, j87, j88, j89, j90, j91, j92, j93, j94, j95, j96, j97, j98, j99, j100, j101, j102, j103, j104, j105, j106, j107, j108, j109, j110, j111, j112, j113, j114, j115, j116, j117, j118, j119, j120, j121, j122, j123, j124, j125, j126, j127, j128, j129, j130, j131, j132, j133, j134, j135, j136, j137, j138, j139, j140, j141, j142, j143, j144, j145, j146, j147, j148, j149, j150, j151, j152, j153, j154, j155, j156, j157, j158, j159, j160, j161, j162, j163, j164, j165, j166, j167, j168, j169, j170, j171, j172, j173, j174, j175, j176, j177, j178, j179, j180, j181, j182, j183, j184, j185, j186, j187, j188, j189, j190, j191, j192, j193, j194, j195, j196, j197, j198, j199, j200, j201, j202, j203, j204, j205, j206, j207, j208, j209, j210, j211, j212, j213, j214, j215, j216, j217, j218, j219, j220, j221, j222, j223, j224, j225, j226, j227, j228, j229, j230, j231, j232, j233, j234, j235, j236, j237, j238, j239, j240, j241, j242, j243, j244, j245, j246, j247, j248, j249, j250, j251, j252, j253, j254], defers := [] } W') :
    (navC [1, 1, 1, 1, 1, 1, 1, 0, 1, 1, 1, 1, 0, 1, 1, 0] (Tryd.f5.body.getD .skip)).wp Tryd.prog Q0 { tmps := #[j0, .int .u8 wide, j2, j3, j4, j5, j6, j7, j8, j9, j10, j11, .int .i64 k, j13, j14, j15, j16, j17, j18, j19, j20, j21, j22, j23, j24, j25, j26, j27, j28, j29, j30, j31, j32, j33, j34, j35, j36, j37, j38, j39, j40, j41, j42, j43, j44, j45, j46, j47, j48, j49, j50, j51, j52, j53, j54, j55, j56, j57, j58, j59, j60, j61, j62, j63, j64, j65, j66, j67, j68, j69, j70, j71, j72, j73, j74, j75, j76, j77, j78, j79, j80, j81, j82, j83, j84, j85, j86, j87, j88, j89, j90, j91, j92, j93, j94, j95, j96, j97, j98, j99, j100, j101, j102, j103, j104, j105, j106, j107, j108, j109, j110, j111, j112, j113, j114, j115, j116, j117, j118, j119, j120, j121, j122, j123, j124, j125, j126, j127, j128, j129, j130, j131, j132, j133, j134, j135, j136, j137, j138, j139, j140, j141, j142, j143, j144, j145, j146, j147, j148, j149, j150, j151, j152, j153, j154, j155, j156, j157, j158, j159, j160, j161, j162, j163, j164, j165, j166, j167, j168, j169, j170, j171, j172, j173, j174, j175, j176, j177, j178, j179, j180, j181, j182, j183, j184, j185, j186, j187, j188, j189, j190, j191, j192, j193, j194, j195, j196, j197, j198, j199, j200, j201, j202, j203, j204, j205, j206, j207, j208, j209, j210, j211, j212, j213, j214, j215, j216, j217, j218, j219, j220, j221, j222, j223, j224, j225, j226, j227, j228, j229, j230, j231, j232, j233, j234, j235, j236, j237, j238, j239, j240, j241, j242, j243, j244, j245, j246, j247, j248, j249, j250, j251, j252, j253, j254], defers := [] } W := by
  conv => arg 2; whnf
  have H0 := Lib.hid h0; clear h0
  have hk1 : (k : Int) < 9 := by omega
  have hr20 : r < 20 := by omega
  have hm1 : wide * (k + 1) ≤ 2304 := by
    calc wide * (k + 1) ≤ 256 * 9 := Nat.mul_le_mul (by omega) (by omega)
      _ = 2304 := rfl
  have hm : ((wide : Int) * ((k : Int) + 1)) = ((wide * (k + 1) : Nat) : Int) := by simp
  generalize wide * (k + 1) = m at *
  have hmr : (m : Int) % 20 = (r : Int) := by omega
  have ha : abcB.size = 10 := rfl
  have hx : exesB.size = 20 := rfl
  have hC : Mild.Bks W.heap.size W [] W := ⟨Below.refl _ _, Nat.le_refl _, fun q hq => by cases hq⟩
  refine Mild.region_mild 12 [] (Mild.Bks W.heap.size W []) (by kernel_rfl) 255 (by kernel_rfl) rfl (by simp) Mild.Bks.closed hC (by simp) ?H
  apply Exists.intro
  refine ⟨?HW, ?HT⟩
  case HW =>
    intro W hW
    clear hW
    simp only [List.take_succ_cons, List.take_zero]
    apply Mild.walkM_q rfl
    go_wp2
    refine ⟨rfl, rfl, Below.refl _ _, ?_⟩
    apply Mild.walkM_q rfl
    go_wp2
    refine ⟨rfl, rfl, Below.refl _ _, ?_⟩
    apply Mild.walkM_q rfl
    go_wp2
    refine ⟨rfl, rfl, Below.refl _ _, ?_⟩
    apply Mild.walkM_q rfl
    go_wp2
    refine ⟨rfl, rfl, Below.refl _ _, ?_⟩
    apply Mild.walkM_q rfl
    go_wp2
    refine ⟨rfl, rfl, Below.refl _ _, ?_⟩
    apply Mild.walkM_q rfl
    go_wp2
    refine ⟨rfl, rfl, Below.refl _ _, ?_⟩
    apply Mild.walkM_q rfl
    go_wp2
    refine ⟨rfl, rfl, Below.refl _ _, ?_⟩
    apply Mild.walkM_q rfl
    go_wp2
    refine ⟨rfl, rfl, Below.refl _ _, ?_⟩
    apply Mild.walkM_q rfl
    go_wp2
    refine ⟨rfl, rfl, Below.refl _ _, ?_⟩
    apply Mild.walkM_q rfl
    go_wp2
    refine ⟨rfl, rfl, Below.refl _ _, ?_⟩
    apply Mild.walkM_q rfl
    go_wp2
    refine ⟨rfl, rfl, Below.refl _ _, ?_⟩
    apply Mild.walkM_q rfl
    go_wp2
    refine ⟨rfl, rfl, Below.refl _ _, ?_⟩
    exact Mild.walkM_end rfl
  case HT =>
    intro F w2 hC2 _ _
    simp only [List.drop_succ_cons, List.drop_zero, Mild.putAll, List.foldl_cons, List.foldl_nil, Mild.ptrTo, Act.put, List.setIfInBounds_toArray, List.set_cons_zero, List.set_cons_succ]
    have HC2 := Lib.hid hC2; clear hC2
    go_wp2
    exact H0.out _ _ _ _ _ _ _ _ _ _ _ _ _ HC2.out
end Go.Proofs.YtajccjbigcdkbaaDoor
namespace Go.Proofs.YtajccjbigcdkbaaDoor
open Go.ChangeShapes Go.WideShapes Go.ChangeAt Go.RowKit
set_option maxRecDepth 100000 in
theorem nm_all : ((List.range 9).all fun k => (List.range 20).all fun r => namedB (nmB r k) && !((nmB r k).data.toList.contains 10)) = true := by decide +kernel
theorem nm_fit {r k : Nat} (hk : k < 9) (hr : r < 20) : namedB (nmB r k) = true ∧ (10 : UInt8) ∉ (nmB r k).data.toList := by
  have h := List.all_eq_true.1 (List.all_eq_true.1 nm_all k (List.mem_range.2 hk)) r (List.mem_range.2 hr)
  simp only [Bool.and_eq_true, Bool.not_eq_true', List.contains_eq_mem, decide_eq_false_iff_not] at h
  exact h
end Go.Proofs.YtajccjbigcdkbaaDoor
namespace Go.Proofs.YtajccjbigcdkbaaDoor
open Go.ChangeShapes Go.WideShapes Go.ChangeAt Go.RowKit
theorem info26 : (Tryd.prog.info? 26).map (fun i => (i.zero, i.size, i.bytes)) = some (some (.agg #[.int .i64 0, .int .i64 0, .int .i64 0, .int .i64 0]), 4, 32) := by kernel_rfl
def cells4 (c : Co) : List Value := [.int .i64 c.a, .int .i64 c.b, .int .i64 c.c, .int .i64 c.d]
def IsRowV (v : Value) (n : Nat) : Prop := ∃ g cap, v = .slice (some ⟨g, 0, none⟩) n cap
structure LC (w0 : World) (ns bs : List ByteArray) (ls ts : List Co) (v7 v8 v9 v10 : Value) (W : World) : Prop where
  below : Below w0.heap.size w0 W
  big : w0.heap.size ≤ W.heap.size
  nm : W.ownsRow w0.heap.size 9 1 v7 ns.length (ns.map Value.string)
  bk : W.ownsRow w0.heap.size 9 1 v8 bs.length (bs.map Value.string)
  li : W.ownsRow w0.heap.size 26 4 v9 ls.length (ls.flatMap cells4)
  tu : W.ownsRow w0.heap.size 26 4 v10 ts.length (ts.flatMap cells4)
  r8 : IsRowV v8 bs.length
  r10 : IsRowV v10 ts.length
  ap1 : v7.ownBlock ≠ v8.ownBlock
  ap2 : v9.ownBlock ≠ v10.ownBlock
theorem LC.closed {w0 : World} {ns bs : List ByteArray} {ls ts : List Co} {v7 v8 v9 v10 : Value} {W W' : World} (h : LC w0 ns bs ls ts v7 v8 v9 v10 W) (hb : Below W.heap.size W W') : LC w0 ns bs ls ts v7 v8 v9 v10 W' :=
  ⟨h.below.trans (hb.mono h.big), Nat.le_trans h.big hb.size, own_below h.nm hb, own_below h.bk hb, own_below h.li hb, own_below h.tu hb, h.r8, h.r10, h.ap1, h.ap2⟩
theorem own_lt {W : World} {base : Nat} {e : TypeId} {s n : Nat} {v : Value} {xs : List Value} (h : W.ownsRow base e s v n xs) : ∀ k, v.ownBlock = some k → base ≤ k ∧ k < W.heap.size := h.lt
theorem own_new {W : World} {base : Nat} {e : TypeId} {s n : Nat} {v v' u : Value} {xs : List Value} (h : W.ownsRow base e s u n xs) (hne : v.ownBlock ≠ u.ownBlock) (hu : u.ownBlock ≠ none) (hv : v'.ownBlock = v.ownBlock ∨ v'.ownBlock = some W.heap.size) : v'.ownBlock ≠ u.ownBlock := by
  rcases hv with e1 | e1
  · rw [e1]; exact hne
  · rw [e1]
    intro e2
    have := (h.lt _ e2.symm).2
    omega
theorem row_some {v : Value} {n : Nat} (h : IsRowV v n) : v.ownBlock ≠ none := by
  obtain ⟨g, cap, rfl⟩ := h
  simp [Value.ownBlock]

set_option maxRecDepth 100000 in
set_option maxHeartbeats 4000000 in
theorem reps13 (w0 W : World) (ns bs : List ByteArray) (ls ts : List Co) (v7 v8 v9 v10 : Value) (x : ByteArray) (hn : ns.length ≤ 100) (hC : LC w0 ns bs ls ts v7 v8 v9 v10 W)
    (j0 j1 j2 j3 j4 j5 j6 j8 j9 j10 j11 j12 j13 j15 j16 j17 j18 j19 j20 j21 j22 j23 j24 j25 j26 j27 j28 j29 j30 j31 j32 j33 j34 j35 j36 j37 j38 j39 j40 j41 j42 j43 j44 j45 j46 j47 j48 j49 j50 j51 j52 j53 j54 j55 j56 j57 j58 j59 j60 j61 j62 j63 j64 j65 j66 j67 j68 j69 j70 j71 j72 j73 j74 j75 j76 j77 j78 j79 j80 j81 j82 j83 j84 j85 j86 j87 j88 j89 j90 j91 j92 j93 j94 j95 j96 j97 j98 j99 j100 j101 j102 j103 j104 j105 j106 j107 j108 j109 j110 j111 j112 j113 j114 j115 j116 j117 j118 j119 j120 j121 j122 j123 j124 j125 j126 j127 j128 j129 j130 j131 j132 j133 j134 j135 j136 j137 j138 j139 j140 j141 j142 j143 j144 j145 j146 j147 j148 j149 j150 j151 j152 j153 j154 j155 j156 j157 j158 j159 j160 j161 j162 j163 j164 j165 j166 j167 j168 j169 j170 j171 j172 j173 j174 j175 j176 j177 j178 j179 j180 j181 j182 j183 j184 j185 j186 j187 j188 j189 j190 j191 j192 j193 j194 j195 j196 j197 j198 j199 j200 j201 j202 j203 j204 j205 j206 j207 j208 j209 j210 j211 j212 j213 j214 j215 j216 j217 j218 j219 j220 j221 j222 j223 j224 j225 j226 j227 j228 j229 j230 j231 j232 j233 j234 j235 j236 j237 j238 j239 j240 j241 j242 j243 j244 j245 j246 j247 j248 j249 j250 j251 j252 j253 j254 : Value) (Q0 : Exit → Act → World → Prop)
    (h0 : ∀ v' j72 j73 j74 j75 W', (∀ b, W.heap.size ≤ b ∨ v7.ownBlock = some b ∨ W'.heap[b]? = W.heap[b]?) → LC w0 (ns ++ [x]) bs ls ts v' v8 v9 v10 W' → Q0 .normal { tmps := #[j0, j1, j2, j3, j4, j5, j6, v', j8, j9, j10, j11, j12, j13, .string x, j15, j16, j17, j18, j19, j20, j21, j22, j23, j24, j25, j26, j27, j28, j29, j30, j31, j32, j33, j34, j35, j36, j37, j38, j39, j40, j41, j42, j43, j44, j45, j46, j47, j48, j49, j50, j51, j52, j53, j54, j55, j56, j57, j58, j59, j60, j61, j62, j63, j64, j65, j66, j67, j68, j69, j70, j71, j72, j73, j74, j75, j76, j77, j78, j79, j80, j81, j82, j83, j84, j85, j86, j87, j88, j89, j90, j91, j92, j93, j94, j95, j96, j97, j98, j99, j100, j101, j102, j103, j104, j105, j106, j107, j108, j109, j110, j111, j112, j113, j114, j115, j116, j117, j118, j119, j120, j121, j122, j123, j124, j125, j126, j127, j128, j129, j130, j131, j132, j133, j134, j135, j136, j137, j138, j139, j140, j141, j142, j143, j144, j145, j146, j147, j148, j149, j150, j151, j152, j153, j154, j155, j156, j157, j158, j159, j160, j161, j162, j163, j164, j165, j166, j167, j168, j169, j170, j171, j172, j173, j174, j175, j176, j177, j178, j179, j180, j181, j182, j183, j184, j185, j186, j187, j188, j189, j190, j191, j192, j193, j194, j195, j196, j197, j198, j199, j200, j201, j202, j203, j204, j205, j206, j207, j208, j209, j210, j211, j212, j213, j214, j215, j216, j217, j218, j219, j220, j221, j222, j223, j224, j225, j226, j227, j228, j229, j230, j231, j232, j233, j234, j235, j236, j237, j238, j239, j240, j241, j242, j243, j244, j245, j246, j247, j248, j249, j250, j251, j252, j253, j254], defers := [] } W') :
    (navC [1, 1, 1, 1, 1, 1, 1, 0, 1, 1, 1, 1, 0, 1, 1, 1, 0] (Tryd.f5.body.getD .skip)).wp Tryd.prog Q0 { tmps := #[j0, j1, j2, j3, j4, j5, j6, v7, j8, j9, j10, j11, j12, j13, .string x, j15, j16, j17, j18, j19, j20, j21, j22, j23, j24, j25, j26, j27, j28, j29, j30, j31, j32, j33, j34, j35, j36, j37, j38, j39, j40, j41, j42, j43, j44, j45, j46, j47, j48, j49, j50, j51, j52, j53, j54, j55, j56, j57, j58, j59, j60, j61, j62, j63, j64, j65, j66, j67, j68, j69, j70, j71, j72, j73, j74, j75, j76, j77, j78, j79, j80, j81, j82, j83, j84, j85, j86, j87, j88, j89, j90, j91, j92, j93, j94, j95, j96, j97, j98, j99, j100, j101, j102, j103, j104, j105, j106, j107, j108, j109, j110, j111, j112, j113, j114, j115, j116, j117, j118, j119, j120, j121, j122, j123, j124, j125, j126, j127, j128, j129, j130, j131, j132, j133, j134, j135, j136, j137, j138, j139, j140, j141, j142, j143, j144, j145, j146, j147, j148, j149, j150, j151, j152, j153, j154, j155, j156, j157, j158, j159, j160, j161, j162, j163, j164, j165, j166, j167, j168, j169, j170, j171, j172, j173, j174, j175, j176, j177, j178, j179, j180, j181, j182, j183, j184, j185, j186, j187, j188, j189, j190, j191, j192, j193, j194, j195, j196, j197, j198, j199, j200, j201, j202, j203, j204, j205, j206, j207, j208, j209, j210, j211, j212, j213, j214, j215, j216, j217, j218, j219, j220, j221, j222, j223, j224, j225, j226, j227, j228, j229, j230, j231, j232, j233, j234, j235, j236, j237, j238, j239, j240, j241, j242, j243, j244, j245, j246, j247, j248, j249, j250, j251, j252, j253, j254], defers := [] } W := by
  conv => arg 2; whnf
  have H0 := Lib.hid h0; clear h0
  have hbig := hC.big
  have HC := Lib.hid (hC.closed ((Below.refl W.heap.size W).alloc (Nat.le_refl _) (.cells #[.string x] 9)))
  clear hC
  obtain ⟨ti, hi9, hz0, hz1, hz2⟩ := info_parts info9
  go_wp2_with (at_builtin; go_loud (refine wpList_append_own_at _ rfl _ _ 41 rfl w0.heap.size 9 ti (.string ⟨#[]⟩) 1 16 Tryd.underlying41 hi9 hz0 hz1 hz2 rfl (by decide) _ _ _ rfl HC.out.nm ⟨W.heap.size, 0, none⟩ 1 1 [.string x] rfl rfl ?c1 ?c2 ?c3 ?c4 ?c5 ?_))
  case c2 => rfl
  case c3 => unfold maxLen; omega
  case c4 => omega
  case c5 => first | omega | (simp; omega)
  intro v' w2 hown' hgrow _ hblk
  have h := HC.out
  have hnew : LC w0 (ns ++ [x]) bs ls ts v' v8 v9 v10 w2 :=
    ⟨below_grown h.below hgrow h.big (fun k e => (h.nm.lt k e).1), Nat.le_trans h.big hgrow.size, by simpa using hown', h.bk.kept hgrow (.inr h.ap1.symm), h.li.kept hgrow (own_apart h.li h.nm (by decide)), h.tu.kept hgrow (own_apart h.tu h.nm (by decide)), h.r8, h.r10, own_new h.bk h.ap1 (row_some h.r8) (by rw [World.size_alloc]; exact hblk), h.ap2⟩
  have hkeep : ∀ b, W.heap.size ≤ b ∨ v7.ownBlock = some b ∨ w2.heap[b]? = W.heap[b]? := by
    intro b
    by_cases h1 : W.heap.size ≤ b
    · exact .inl h1
    · by_cases h2 : v7.ownBlock = some b
      · exact .inr (.inl h2)
      · refine .inr (.inr ?_)
        rw [hgrow.block b (by simp; omega) (fun e => h2 e.symm)]
        exact ((Below.refl W.heap.size W).alloc (Nat.le_refl _) _).block b (by omega)
  have HN := Lib.hid hnew
  have HK := Lib.hid hkeep
  clear hnew hkeep h hown' hgrow hblk HC
  go_wp2
  exact H0.out _ _ _ _ _ _ HK.out HN.out

set_option maxRecDepth 100000 in
set_option maxHeartbeats 4000000 in
theorem reps14 (w0 W : World) (ns bs : List ByteArray) (ls ts : List Co) (v7 v8 v9 v10 : Value) (c : Co) (A : Nat) (hA : W.heap[A]? = some (.cells (coc c) 26)) (hn : ls.length ≤ 100) (hC : LC w0 ns bs ls ts v7 v8 v9 v10 W)
    (j0 j1 j2 j3 j4 j5 j6 j7 j8 j10 j11 j12 j14 j15 j16 j17 j18 j19 j20 j21 j22 j23 j24 j25 j26 j27 j28 j29 j30 j31 j32 j33 j34 j35 j36 j37 j38 j39 j40 j41 j42 j43 j44 j45 j46 j47 j48 j49 j50 j51 j52 j53 j54 j55 j56 j57 j58 j59 j60 j61 j62 j63 j64 j65 j66 j67 j68 j69 j70 j71 j72 j73 j74 j75 j76 j77 j78 j79 j80 j81 j82 j83 j84 j85 j86 j87 j88 j89 j90 j91 j92 j93 j94 j95 j96 j97 j98 j99 j100 j101 j102 j103 j104 j105 j106 j107 j108 j109 j110 j111 j112 j113 j114 j115 j116 j117 j118 j119 j120 j121 j122 j123 j124 j125 j126 j127 j128 j129 j130 j131 j132 j133 j134 j135 j136 j137 j138 j139 j140 j141 j142 j143 j144 j145 j146 j147 j148 j149 j150 j151 j152 j153 j154 j155 j156 j157 j158 j159 j160 j161 j162 j163 j164 j165 j166 j167 j168 j169 j170 j171 j172 j173 j174 j175 j176 j177 j178 j179 j180 j181 j182 j183 j184 j185 j186 j187 j188 j189 j190 j191 j192 j193 j194 j195 j196 j197 j198 j199 j200 j201 j202 j203 j204 j205 j206 j207 j208 j209 j210 j211 j212 j213 j214 j215 j216 j217 j218 j219 j220 j221 j222 j223 j224 j225 j226 j227 j228 j229 j230 j231 j232 j233 j234 j235 j236 j237 j238 j239 j240 j241 j242 j243 j244 j245 j246 j247 j248 j249 j250 j251 j252 j253 j254 : Value) (Q0 : Exit → Act → World → Prop)
    (h0 : ∀ v' j76 j77 j78 j79 W', (∀ b, W.heap.size ≤ b ∨ v9.ownBlock = some b ∨ W'.heap[b]? = W.heap[b]?) → LC w0 ns bs (ls ++ [c]) ts v7 v8 v' v10 W' → Q0 .normal { tmps := #[j0, j1, j2, j3, j4, j5, j6, j7, j8, v', j10, j11, j12, pt A 0, j14, j15, j16, j17, j18, j19, j20, j21, j22, j23, j24, j25, j26, j27, j28, j29, j30, j31, j32, j33, j34, j35, j36, j37, j38, j39, j40, j41, j42, j43, j44, j45, j46, j47, j48, j49, j50, j51, j52, j53, j54, j55, j56, j57, j58, j59, j60, j61, j62, j63, j64, j65, j66, j67, j68, j69, j70, j71, j72, j73, j74, j75, j76, j77, j78, j79, j80, j81, j82, j83, j84, j85, j86, j87, j88, j89, j90, j91, j92, j93, j94, j95, j96, j97, j98, j99, j100, j101, j102, j103, j104, j105, j106, j107, j108, j109, j110, j111, j112, j113, j114, j115, j116, j117, j118, j119, j120, j121, j122, j123, j124, j125, j126, j127, j128, j129, j130, j131, j132, j133, j134, j135, j136, j137, j138, j139, j140, j141, j142, j143, j144, j145, j146, j147, j148, j149, j150, j151, j152, j153, j154, j155, j156, j157, j158, j159, j160, j161, j162, j163, j164, j165, j166, j167, j168, j169, j170, j171, j172, j173, j174, j175, j176, j177, j178, j179, j180, j181, j182, j183, j184, j185, j186, j187, j188, j189, j190, j191, j192, j193, j194, j195, j196, j197, j198, j199, j200, j201, j202, j203, j204, j205, j206, j207, j208, j209, j210, j211, j212, j213, j214, j215, j216, j217, j218, j219, j220, j221, j222, j223, j224, j225, j226, j227, j228, j229, j230, j231, j232, j233, j234, j235, j236, j237, j238, j239, j240, j241, j242, j243, j244, j245, j246, j247, j248, j249, j250, j251, j252, j253, j254], defers := [] } W') :
    (navC [1, 1, 1, 1, 1, 1, 1, 0, 1, 1, 1, 1, 0, 1, 1, 1, 1, 0] (Tryd.f5.body.getD .skip)).wp Tryd.prog Q0 { tmps := #[j0, j1, j2, j3, j4, j5, j6, j7, j8, v9, j10, j11, j12, pt A 0, j14, j15, j16, j17, j18, j19, j20, j21, j22, j23, j24, j25, j26, j27, j28, j29, j30, j31, j32, j33, j34, j35, j36, j37, j38, j39, j40, j41, j42, j43, j44, j45, j46, j47, j48, j49, j50, j51, j52, j53, j54, j55, j56, j57, j58, j59, j60, j61, j62, j63, j64, j65, j66, j67, j68, j69, j70, j71, j72, j73, j74, j75, j76, j77, j78, j79, j80, j81, j82, j83, j84, j85, j86, j87, j88, j89, j90, j91, j92, j93, j94, j95, j96, j97, j98, j99, j100, j101, j102, j103, j104, j105, j106, j107, j108, j109, j110, j111, j112, j113, j114, j115, j116, j117, j118, j119, j120, j121, j122, j123, j124, j125, j126, j127, j128, j129, j130, j131, j132, j133, j134, j135, j136, j137, j138, j139, j140, j141, j142, j143, j144, j145, j146, j147, j148, j149, j150, j151, j152, j153, j154, j155, j156, j157, j158, j159, j160, j161, j162, j163, j164, j165, j166, j167, j168, j169, j170, j171, j172, j173, j174, j175, j176, j177, j178, j179, j180, j181, j182, j183, j184, j185, j186, j187, j188, j189, j190, j191, j192, j193, j194, j195, j196, j197, j198, j199, j200, j201, j202, j203, j204, j205, j206, j207, j208, j209, j210, j211, j212, j213, j214, j215, j216, j217, j218, j219, j220, j221, j222, j223, j224, j225, j226, j227, j228, j229, j230, j231, j232, j233, j234, j235, j236, j237, j238, j239, j240, j241, j242, j243, j244, j245, j246, j247, j248, j249, j250, j251, j252, j253, j254], defers := [] } W := by
  conv => arg 2; whnf
  have H0 := Lib.hid h0; clear h0
  have hbig := hC.big
  have HC := Lib.hid (hC.closed ((Below.refl W.heap.size W).alloc (Nat.le_refl _) (.cells (coc c) 26)))
  clear hC
  have cA := Mild.cell_of_block hA
  obtain ⟨ti, hi9, hz0, hz1, hz2⟩ := info_parts info26
  go_wp2_with (at_builtin; go_loud (refine wpList_append_own_at _ rfl _ _ 29 rfl w0.heap.size 26 ti (.agg #[.int .i64 0, .int .i64 0, .int .i64 0, .int .i64 0]) 4 32 Tryd.underlying29 hi9 hz0 hz1 hz2 rfl (by decide) _ _ _ rfl HC.out.li ⟨W.heap.size, 0, none⟩ 1 1 (cells4 c) rfl rfl ?c1 ?c2 ?c3 ?c4 ?c5 ?_))
  case c2 => intro y hy; simp [cells4] at hy; rcases hy with rfl | rfl | rfl | rfl <;> rfl
  case c3 => unfold maxLen; omega
  case c4 => omega
  case c5 => first | omega | (simp; omega)
  · intro j u hj; exact hj
  intro v' w2 hown' hgrow _ hblk
  have h := HC.out
  have hnew : LC w0 ns bs (ls ++ [c]) ts v7 v8 v' v10 w2 :=
    ⟨below_grown h.below hgrow h.big (fun k e => (h.li.lt k e).1), Nat.le_trans h.big hgrow.size, h.nm.kept hgrow (own_apart h.nm h.li (by decide)), h.bk.kept hgrow (own_apart h.bk h.li (by decide)), by simpa using hown', h.tu.kept hgrow (.inr h.ap2.symm), h.r8, h.r10, h.ap1, own_new h.tu h.ap2 (row_some h.r10) (by rw [World.size_alloc]; exact hblk)⟩
  have hkeep : ∀ b, W.heap.size ≤ b ∨ v9.ownBlock = some b ∨ w2.heap[b]? = W.heap[b]? := by
    intro b
    by_cases h1 : W.heap.size ≤ b
    · exact .inl h1
    · by_cases h2 : v9.ownBlock = some b
      · exact .inr (.inl h2)
      · refine .inr (.inr ?_)
        rw [hgrow.block b (by simp; omega) (fun e => h2 e.symm)]
        exact ((Below.refl W.heap.size W).alloc (Nat.le_refl _) _).block b (by omega)
  have HN := Lib.hid hnew
  have HK := Lib.hid hkeep
  clear hnew hkeep h hown' hgrow hblk HC
  go_wp2
  exact H0.out _ _ _ _ _ _ HK.out HN.out
end Go.Proofs.YtajccjbigcdkbaaDoor
namespace Go.Proofs.YtajccjbigcdkbaaDoor
open Go.ChangeShapes Go.WideShapes Go.ChangeAt Go.RowKit
theorem own_far {W : World} {base : Nat} {e : TypeId} {s n : Nat} {v : Value} {xs : List Value} (h : W.ownsRow base e s v n xs) : v.ownBlock ≠ some W.heap.size := fun e1 => by have := (h.lt _ e1).2; omega
theorem own_away {W : World} {base : Nat} {e : TypeId} {s n : Nat} {v v' : Value} {xs : List Value} (h : W.ownsRow base e s v n xs) (hv : v'.ownBlock = some W.heap.size ∨ v'.ownBlock = some (W.heap.size + 1)) : v.ownBlock ≠ v'.ownBlock := fun e1 => by
  rcases hv with e2 | e2
  · rw [e2] at e1; have := (h.lt _ e1).2; omega
  · rw [e2] at e1; have := (h.lt _ e1).2; omega
theorem own_row {W : World} {base : Nat} {e : TypeId} {s n : Nat} {v : Value} {xs : List Value} (h : W.ownsRow base e s v n xs) (hn : n ≠ 0) : IsRowV v n := by
  rcases h.2 with ⟨_, h0⟩ | ⟨g, cap, cur, rfl, _⟩
  · exact absurd h0 hn
  · exact ⟨g, cap, rfl⟩

set_option maxRecDepth 100000 in
set_option maxHeartbeats 4000000 in
theorem reps15 (w0 W : World) (ns bs : List ByteArray) (ls ts : List Co) (v7 v9 v10 : Value) (g8 cap8 : Nat) (x : ByteArray) (hn : bs.length ≤ 100) (hC : LC w0 ns bs ls ts v7 (.slice (some ⟨g8, 0, none⟩) bs.length cap8) v9 v10 W)
    (j0 j1 j2 j3 j4 j5 j6 j7 j9 j10 j11 j12 j13 j15 j16 j17 j18 j19 j20 j21 j22 j23 j24 j25 j26 j27 j28 j29 j30 j31 j32 j33 j34 j35 j36 j37 j38 j39 j40 j41 j42 j43 j44 j45 j46 j47 j48 j49 j50 j51 j52 j53 j54 j55 j56 j57 j58 j59 j60 j61 j62 j63 j64 j65 j66 j67 j68 j69 j70 j71 j72 j73 j74 j75 j76 j77 j78 j79 j80 j81 j82 j83 j84 j85 j86 j87 j88 j89 j90 j91 j92 j93 j94 j95 j96 j97 j98 j99 j100 j101 j102 j103 j104 j105 j106 j107 j108 j109 j110 j111 j112 j113 j114 j115 j116 j117 j118 j119 j120 j121 j122 j123 j124 j125 j126 j127 j128 j129 j130 j131 j132 j133 j134 j135 j136 j137 j138 j139 j140 j141 j142 j143 j144 j145 j146 j147 j148 j149 j150 j151 j152 j153 j154 j155 j156 j157 j158 j159 j160 j161 j162 j163 j164 j165 j166 j167 j168 j169 j170 j171 j172 j173 j174 j175 j176 j177 j178 j179 j180 j181 j182 j183 j184 j185 j186 j187 j188 j189 j190 j191 j192 j193 j194 j195 j196 j197 j198 j199 j200 j201 j202 j203 j204 j205 j206 j207 j208 j209 j210 j211 j212 j213 j214 j215 j216 j217 j218 j219 j220 j221 j222 j223 j224 j225 j226 j227 j228 j229 j230 j231 j232 j233 j234 j235 j236 j237 j238 j239 j240 j241 j242 j243 j244 j245 j246 j247 j248 j249 j250 j251 j252 j253 j254 : Value) (Q0 : Exit → Act → World → Prop)
    (h0 : ∀ v' j80 j81 j82 j83 W', Below W.heap.size W W' → LC w0 ns (x :: bs) ls ts v7 v' v9 v10 W' → Q0 .normal { tmps := #[j0, j1, j2, j3, j4, j5, j6, j7, v', j9, j10, j11, j12, j13, .string x, j15, j16, j17, j18, j19, j20, j21, j22, j23, j24, j25, j26, j27, j28, j29, j30, j31, j32, j33, j34, j35, j36, j37, j38, j39, j40, j41, j42, j43, j44, j45, j46, j47, j48, j49, j50, j51, j52, j53, j54, j55, j56, j57, j58, j59, j60, j61, j62, j63, j64, j65, j66, j67, j68, j69, j70, j71, j72, j73, j74, j75, j76, j77, j78, j79, j80, j81, j82, j83, j84, j85, j86, j87, j88, j89, j90, j91, j92, j93, j94, j95, j96, j97, j98, j99, j100, j101, j102, j103, j104, j105, j106, j107, j108, j109, j110, j111, j112, j113, j114, j115, j116, j117, j118, j119, j120, j121, j122, j123, j124, j125, j126, j127, j128, j129, j130, j131, j132, j133, j134, j135, j136, j137, j138, j139, j140, j141, j142, j143, j144, j145, j146, j147, j148, j149, j150, j151, j152, j153, j154, j155, j156, j157, j158, j159, j160, j161, j162, j163, j164, j165, j166, j167, j168, j169, j170, j171, j172, j173, j174, j175, j176, j177, j178, j179, j180, j181, j182, j183, j184, j185, j186, j187, j188, j189, j190, j191, j192, j193, j194, j195, j196, j197, j198, j199, j200, j201, j202, j203, j204, j205, j206, j207, j208, j209, j210, j211, j212, j213, j214, j215, j216, j217, j218, j219, j220, j221, j222, j223, j224, j225, j226, j227, j228, j229, j230, j231, j232, j233, j234, j235, j236, j237, j238, j239, j240, j241, j242, j243, j244, j245, j246, j247, j248, j249, j250, j251, j252, j253, j254], defers := [] } W') :
    (navC [1, 1, 1, 1, 1, 1, 1, 0, 1, 1, 1, 1, 0, 1, 1, 1, 1, 1, 0] (Tryd.f5.body.getD .skip)).wp Tryd.prog Q0 { tmps := #[j0, j1, j2, j3, j4, j5, j6, j7, .slice (some ⟨g8, 0, none⟩) bs.length cap8, j9, j10, j11, j12, j13, .string x, j15, j16, j17, j18, j19, j20, j21, j22, j23, j24, j25, j26, j27, j28, j29, j30, j31, j32, j33, j34, j35, j36, j37, j38, j39, j40, j41, j42, j43, j44, j45, j46, j47, j48, j49, j50, j51, j52, j53, j54, j55, j56, j57, j58, j59, j60, j61, j62, j63, j64, j65, j66, j67, j68, j69, j70, j71, j72, j73, j74, j75, j76, j77, j78, j79, j80, j81, j82, j83, j84, j85, j86, j87, j88, j89, j90, j91, j92, j93, j94, j95, j96, j97, j98, j99, j100, j101, j102, j103, j104, j105, j106, j107, j108, j109, j110, j111, j112, j113, j114, j115, j116, j117, j118, j119, j120, j121, j122, j123, j124, j125, j126, j127, j128, j129, j130, j131, j132, j133, j134, j135, j136, j137, j138, j139, j140, j141, j142, j143, j144, j145, j146, j147, j148, j149, j150, j151, j152, j153, j154, j155, j156, j157, j158, j159, j160, j161, j162, j163, j164, j165, j166, j167, j168, j169, j170, j171, j172, j173, j174, j175, j176, j177, j178, j179, j180, j181, j182, j183, j184, j185, j186, j187, j188, j189, j190, j191, j192, j193, j194, j195, j196, j197, j198, j199, j200, j201, j202, j203, j204, j205, j206, j207, j208, j209, j210, j211, j212, j213, j214, j215, j216, j217, j218, j219, j220, j221, j222, j223, j224, j225, j226, j227, j228, j229, j230, j231, j232, j233, j234, j235, j236, j237, j238, j239, j240, j241, j242, j243, j244, j245, j246, j247, j248, j249, j250, j251, j252, j253, j254], defers := [] } W := by
  conv => arg 2; whnf
  have H0 := Lib.hid h0; clear h0
  have hbig := hC.big
  have HC0 := Lib.hid hC
  have HC := Lib.hid (hC.closed ((Below.refl W.heap.size W).alloc (Nat.le_refl _) (.cells #[.string x] 9)))
  clear hC
  have HO := Lib.hid (own_one W #[.string x] 1 (by unfold maxLen; omega) rfl w0.heap.size 9 hbig)
  have HCL : Hid (∀ j u, (bs.map Value.string)[j]? = some u → (W.alloc (.cells #[.string x] 9)).cell? ((⟨g8, 0, none⟩ : Addr).add j) = some u) := Lib.hid fun j u hj => HC.out.bk.cells (g := g8) rfl j u hj
  obtain ⟨ti, hi9, hz0, hz1, hz2⟩ := info_parts info9
  go_wp2_with (at_builtin; go_loud (refine wpList_append_own_at _ rfl _ _ 41 rfl w0.heap.size 9 ti (.string ⟨#[]⟩) 1 16 Tryd.underlying41 hi9 hz0 hz1 hz2 rfl (by decide) _ _ _ rfl HO.out ⟨g8, 0, none⟩ bs.length cap8 (bs.map Value.string) rfl (by simp) HCL.out ?c2 ?c3 ?c4 ?c5 ?_))
  case c2 => intro y hy; rfl
  case c3 => unfold maxLen; omega
  case c4 => omega
  case c5 => first | omega | (simp; omega)
  intro v' w2 hown' hgrow _ hblk
  have h := HC.out
  have hb2 : v'.ownBlock = some W.heap.size ∨ v'.ownBlock = some (W.heap.size + 1) := hblk
  have hnew : LC w0 ns (x :: bs) ls ts v7 v' v9 v10 w2 :=
    ⟨below_grown h.below hgrow h.big (fun k e => by cases e; exact hbig), Nat.le_trans h.big hgrow.size, h.nm.kept hgrow (.inr (own_far HC0.out.nm)), by have := hown'; rw [Nat.add_comm] at this; exact this, h.li.kept hgrow (.inr (own_far HC0.out.li)), h.tu.kept hgrow (.inr (own_far HC0.out.tu)), by have := own_row hown' (by omega); rw [Nat.add_comm] at this; exact this, h.r10, own_away HC0.out.nm hb2, h.ap2⟩
  have hkeep : Below W.heap.size W w2 := below_grown ((Below.refl W.heap.size W).alloc (Nat.le_refl _) _) hgrow (by rw [World.size_alloc]; omega) (fun k e => by cases e; exact Nat.le_refl _)
  have HN := Lib.hid hnew
  have HK := Lib.hid hkeep
  clear hnew hkeep h hown' hgrow hblk HC HC0 HO HCL hb2
  go_wp2
  exact H0.out _ _ _ _ _ _ HK.out HN.out
theorem own_four (W : World) (c : Co) (base : Nat) (hb : base ≤ W.heap.size) : (W.alloc (.cells (coc c) 26)).ownsRow base 26 4 (.slice (some ⟨W.heap.size, 0, none⟩) 1 1) 1 (cells4 c) :=
  ⟨rfl, .inr ⟨W.heap.size, 1, coc c, rfl, hb, Mild.alloc_at _ _, Nat.le_refl _, by unfold maxLen; omega, rfl, rfl⟩⟩
theorem flat4_len : ∀ ts : List Co, (ts.flatMap cells4).length = ts.length * 4
  | [] => rfl
  | t :: ts => by rw [List.flatMap_cons, List.length_append, flat4_len ts, List.length_cons]; simp [cells4]; omega
theorem flat4_one (ts : List Co) : ∀ y ∈ ts.flatMap cells4, y.oneCell' = true := by
  intro y hy
  obtain ⟨t, _, ht⟩ := List.mem_flatMap.1 hy
  simp [cells4] at ht
  rcases ht with rfl | rfl | rfl | rfl <;> rfl

set_option maxRecDepth 100000 in
set_option maxHeartbeats 4000000 in
theorem reps16 (w0 W : World) (ns bs : List ByteArray) (ls ts : List Co) (v7 v8 v9 : Value) (g8 cap8 : Nat) (c : Co) (A : Nat) (hA : W.heap[A]? = some (.cells (coc c) 26)) (hn : ts.length ≤ 100) (hC : LC w0 ns bs ls ts v7 v8 v9 (.slice (some ⟨g8, 0, none⟩) ts.length cap8) W)
    (j0 j1 j2 j3 j4 j5 j6 j7 j8 j9 j11 j12 j14 j15 j16 j17 j18 j19 j20 j21 j22 j23 j24 j25 j26 j27 j28 j29 j30 j31 j32 j33 j34 j35 j36 j37 j38 j39 j40 j41 j42 j43 j44 j45 j46 j47 j48 j49 j50 j51 j52 j53 j54 j55 j56 j57 j58 j59 j60 j61 j62 j63 j64 j65 j66 j67 j68 j69 j70 j71 j72 j73 j74 j75 j76 j77 j78 j79 j80 j81 j82 j83 j84 j85 j86 j87 j88 j89 j90 j91 j92 j93 j94 j95 j96 j97 j98 j99 j100 j101 j102 j103 j104 j105 j106 j107 j108 j109 j110 j111 j112 j113 j114 j115 j116 j117 j118 j119 j120 j121 j122 j123 j124 j125 j126 j127 j128 j129 j130 j131 j132 j133 j134 j135 j136 j137 j138 j139 j140 j141 j142 j143 j144 j145 j146 j147 j148 j149 j150 j151 j152 j153 j154 j155 j156 j157 j158 j159 j160 j161 j162 j163 j164 j165 j166 j167 j168 j169 j170 j171 j172 j173 j174 j175 j176 j177 j178 j179 j180 j181 j182 j183 j184 j185 j186 j187 j188 j189 j190 j191 j192 j193 j194 j195 j196 j197 j198 j199 j200 j201 j202 j203 j204 j205 j206 j207 j208 j209 j210 j211 j212 j213 j214 j215 j216 j217 j218 j219 j220 j221 j222 j223 j224 j225 j226 j227 j228 j229 j230 j231 j232 j233 j234 j235 j236 j237 j238 j239 j240 j241 j242 j243 j244 j245 j246 j247 j248 j249 j250 j251 j252 j253 j254 : Value) (Q0 : Exit → Act → World → Prop)
    (h0 : ∀ v' j84 j85 j86 j87 W', Below W.heap.size W W' → LC w0 ns bs ls (c :: ts) v7 v8 v9 v' W' → Q0 .normal { tmps := #[j0, j1, j2, j3, j4, j5, j6, j7, j8, j9, v', j11, j12, pt A 0, j14, j15, j16, j17, j18, j19, j20, j21, j22, j23, j24, j25, j26, j27, j28, j29, j30, j31, j32, j33, j34, j35, j36, j37, j38, j39, j40, j41, j42, j43, j44, j45, j46, j47, j48, j49, j50, j51, j52, j53, j54, j55, j56, j57, j58, j59, j60, j61, j62, j63, j64, j65, j66, j67, j68, j69, j70, j71, j72, j73, j74, j75, j76, j77, j78, j79, j80, j81, j82, j83, j84, j85, j86, j87, j88, j89, j90, j91, j92, j93, j94, j95, j96, j97, j98, j99, j100, j101, j102, j103, j104, j105, j106, j107, j108, j109, j110, j111, j112, j113, j114, j115, j116, j117, j118, j119, j120, j121, j122, j123, j124, j125, j126, j127, j128, j129, j130, j131, j132, j133, j134, j135, j136, j137, j138, j139, j140, j141, j142, j143, j144, j145, j146, j147, j148, j149, j150, j151, j152, j153, j154, j155, j156, j157, j158, j159, j160, j161, j162, j163, j164, j165, j166, j167, j168, j169, j170, j171, j172, j173, j174, j175, j176, j177, j178, j179, j180, j181, j182, j183, j184, j185, j186, j187, j188, j189, j190, j191, j192, j193, j194, j195, j196, j197, j198, j199, j200, j201, j202, j203, j204, j205, j206, j207, j208, j209, j210, j211, j212, j213, j214, j215, j216, j217, j218, j219, j220, j221, j222, j223, j224, j225, j226, j227, j228, j229, j230, j231, j232, j233, j234, j235, j236, j237, j238, j239, j240, j241, j242, j243, j244, j245, j246, j247, j248, j249, j250, j251, j252, j253, j254], defers := [] } W') :
    (navC [1, 1, 1, 1, 1, 1, 1, 0, 1, 1, 1, 1, 0, 1, 1, 1, 1, 1, 1, 0] (Tryd.f5.body.getD .skip)).wp Tryd.prog Q0 { tmps := #[j0, j1, j2, j3, j4, j5, j6, j7, j8, j9, .slice (some ⟨g8, 0, none⟩) ts.length cap8, j11, j12, pt A 0, j14, j15, j16, j17, j18, j19, j20, j21, j22, j23, j24, j25, j26, j27, j28, j29, j30, j31, j32, j33, j34, j35, j36, j37, j38, j39, j40, j41, j42, j43, j44, j45, j46, j47, j48, j49, j50, j51, j52, j53, j54, j55, j56, j57, j58, j59, j60, j61, j62, j63, j64, j65, j66, j67, j68, j69, j70, j71, j72, j73, j74, j75, j76, j77, j78, j79, j80, j81, j82, j83, j84, j85, j86, j87, j88, j89, j90, j91, j92, j93, j94, j95, j96, j97, j98, j99, j100, j101, j102, j103, j104, j105, j106, j107, j108, j109, j110, j111, j112, j113, j114, j115, j116, j117, j118, j119, j120, j121, j122, j123, j124, j125, j126, j127, j128, j129, j130, j131, j132, j133, j134, j135, j136, j137, j138, j139, j140, j141, j142, j143, j144, j145, j146, j147, j148, j149, j150, j151, j152, j153, j154, j155, j156, j157, j158, j159, j160, j161, j162, j163, j164, j165, j166, j167, j168, j169, j170, j171, j172, j173, j174, j175, j176, j177, j178, j179, j180, j181, j182, j183, j184, j185, j186, j187, j188, j189, j190, j191, j192, j193, j194, j195, j196, j197, j198, j199, j200, j201, j202, j203, j204, j205, j206, j207, j208, j209, j210, j211, j212, j213, j214, j215, j216, j217, j218, j219, j220, j221, j222, j223, j224, j225, j226, j227, j228, j229, j230, j231, j232, j233, j234, j235, j236, j237, j238, j239, j240, j241, j242, j243, j244, j245, j246, j247, j248, j249, j250, j251, j252, j253, j254], defers := [] } W := by
  conv => arg 2; whnf
  have H0 := Lib.hid h0; clear h0
  have hbig := hC.big
  have HC0 := Lib.hid hC
  have HC := Lib.hid (hC.closed ((Below.refl W.heap.size W).alloc (Nat.le_refl _) (.cells (coc c) 26)))
  clear hC
  have HO := Lib.hid (own_four W c w0.heap.size hbig)
  have HCL : Hid (∀ j u, (ts.flatMap cells4)[j]? = some u → (W.alloc (.cells (coc c) 26)).cell? ((⟨g8, 0, none⟩ : Addr).add j) = some u) := Lib.hid fun j u hj => HC.out.tu.cells (g := g8) rfl j u hj
  obtain ⟨ti, hi9, hz0, hz1, hz2⟩ := info_parts info26
  have cA := Mild.cell_of_block hA
  go_wp2_with (at_builtin; go_loud (refine wpList_append_own_at _ rfl _ _ 29 rfl w0.heap.size 26 ti (.agg #[.int .i64 0, .int .i64 0, .int .i64 0, .int .i64 0]) 4 32 Tryd.underlying29 hi9 hz0 hz1 hz2 rfl (by decide) _ _ _ rfl HO.out ⟨g8, 0, none⟩ ts.length cap8 (ts.flatMap cells4) rfl (flat4_len ts) HCL.out ?c2 ?c3 ?c4 ?c5 ?_))
  case c2 => exact fun y t ht hy => flat4_one ts y (List.mem_flatMap.2 ⟨t, ht, hy⟩)
  case c3 => unfold maxLen; omega
  case c4 => omega
  case c5 => first | omega | (simp; omega)
  intro v' w2 hown' hgrow _ hblk
  have h := HC.out
  have hb2 : v'.ownBlock = some W.heap.size ∨ v'.ownBlock = some (W.heap.size + 1) := hblk
  have hnew : LC w0 ns bs ls (c :: ts) v7 v8 v9 v' w2 :=
    ⟨below_grown h.below hgrow h.big (fun k e => by cases e; exact hbig), Nat.le_trans h.big hgrow.size, h.nm.kept hgrow (.inr (own_far HC0.out.nm)), h.bk.kept hgrow (.inr (own_far HC0.out.bk)), h.li.kept hgrow (.inr (own_far HC0.out.li)), by have := hown'; rw [Nat.add_comm] at this; exact this, h.r8, by have := own_row hown' (by omega); rw [Nat.add_comm] at this; exact this, h.ap1, own_away HC0.out.li hb2⟩
  have hkeep : Below W.heap.size W w2 := below_grown ((Below.refl W.heap.size W).alloc (Nat.le_refl _) _) hgrow (by rw [World.size_alloc]; omega) (fun k e => by cases e; exact Nat.le_refl _)
  have HN := Lib.hid hnew
  have HK := Lib.hid hkeep
  clear hnew hkeep h hown' hgrow hblk HC HC0 HO HCL hb2
  go_wp2
  exact H0.out _ _ _ _ _ _ HK.out HN.out
end Go.Proofs.YtajccjbigcdkbaaDoor
namespace Go.Proofs.YtajccjbigcdkbaaDoor
open Go.ChangeShapes Go.WideShapes Go.ChangeAt Go.RowKit

set_option maxRecDepth 100000 in
set_option maxHeartbeats 4000000 in
theorem reps_round (w0 W : World) (ns bs : List ByteArray) (ls ts : List Co) (v7 v8 v9 v10 : Value) (hn1 : ns.length ≤ 100) (hn2 : bs.length ≤ 100) (hn3 : ls.length ≤ 100) (hn4 : ts.length ≤ 100) (hC : LC w0 ns bs ls ts v7 v8 v9 v10 W)
    (xb xo xl xc k wide r : Nat) (hk : k < xl) (hk9 : k < 9) (hw : wide < 256) (hr : wide * (k + 1) % 20 = r) (c : Co) (hX : X4 W xb xo k c) (S : Int)
    (j2 j3 j4 j5 j6 j13 j14 j15 j16 j17 j18 j19 j20 j21 j22 j23 j24 j25 j26 j27 j28 j29 j30 j31 j32 j33 j34 j35 j36 j37 j38 j39 j40 j41 j42 j43 j44 j45 j46 j47 j48 j49 j50 j51 j52 j53 j54 j55 j56 j57 j58 j59 j60 j61 j62 j63 j64 j65 j66 j67 j68 j69 j70 j71 j72 j73 j74 j75 j76 j77 j78 j79 j80 j81 j82 j83 j84 j85 j86 j87 j88 j89 j90 j91 j92 j93 j94 j95 j96 j97 j98 j99 j100 j101 j102 j103 j104 j105 j106 j107 j108 j109 j110 j111 j112 j113 j114 j115 j116 j117 j118 j119 j120 j121 j122 j123 j124 j125 j126 j127 j128 j129 j130 j131 j132 j133 j134 j135 j136 j137 j138 j139 j140 j141 j142 j143 j144 j145 j146 j147 j148 j149 j150 j151 j152 j153 j154 j155 j156 j157 j158 j159 j160 j161 j162 j163 j164 j165 j166 j167 j168 j169 j170 j171 j172 j173 j174 j175 j176 j177 j178 j179 j180 j181 j182 j183 j184 j185 j186 j187 j188 j189 j190 j191 j192 j193 j194 j195 j196 j197 j198 j199 j200 j201 j202 j203 j204 j205 j206 j207 j208 j209 j210 j211 j212 j213 j214 j215 j216 j217 j218 j219 j220 j221 j222 j223 j224 j225 j226 j227 j228 j229 j230 j231 j232 j233 j234 j235 j236 j237 j238 j239 j240 j241 j242 j243 j244 j245 j246 j247 j248 j249 j250 j251 j252 j253 j254 : Value) (Q0 : Exit → Act → World → Prop)
    (h0 : ∀ u7 u8 u9 u10 j13 j14 j35 j36 j37 j38 j39 j40 j41 j42 j43 j44 j45 j46 j47 j48 j49 j50 j51 j52 j53 j54 j55 j56 j57 j58 j59 j60 j61 j62 j63 j64 j65 j66 j67 j68 j69 j70 j71 j72 j73 j74 j75 j76 j77 j78 j79 j80 j81 j82 j83 j84 j85 j86 j87 j88 j89 j90 j91 W', LC w0 (ns ++ [nmB r k]) (nmB r k :: bs) (ls ++ [c]) (c :: ts) u7 u8 u9 u10 W' → Q0 .normal { tmps := #[.slice (some ⟨xb, xo, none⟩) xl xc, .int .u8 wide, j2, j3, j4, j5, j6, u7, u8, u9, u10, .int .i64 (wrap64 (S + c.d)), .int .i64 k, j13, j14, j15, j16, j17, j18, j19, j20, j21, j22, j23, j24, j25, j26, j27, j28, j29, j30, j31, j32, j33, j34, j35, j36, j37, j38, j39, j40, j41, j42, j43, j44, j45, j46, j47, j48, j49, j50, j51, j52, j53, j54, j55, j56, j57, j58, j59, j60, j61, j62, j63, j64, j65, j66, j67, j68, j69, j70, j71, j72, j73, j74, j75, j76, j77, j78, j79, j80, j81, j82, j83, j84, j85, j86, j87, j88, j89, j90, j91, j92, j93, j94, j95, j96, j97, j98, j99, j100, j101, j102, j103, j104, j105, j106, j107, j108, j109, j110, j111, j112, j113, j114, j115, j116, j117, j118, j119, j120, j121, j122, j123, j124, j125, j126, j127, j128, j129, j130, j131, j132, j133, j134, j135, j136, j137, j138, j139, j140, j141, j142, j143, j144, j145, j146, j147, j148, j149, j150, j151, j152, j153, j154, j155, j156, j157, j158, j159, j160, j161, j162, j163, j164, j165, j166, j167, j168, j169, j170, j171, j172, j173, j174, j175, j176, j177, j178, j179, j180, j181, j182, j183, j184, j185, j186, j187, j188, j189, j190, j191, j192, j193, j194, j195, j196, j197, j198, j199, j200, j201, j202, j203, j204, j205, j206, j207, j208, j209, j210, j211, j212, j213, j214, j215, j216, j217, j218, j219, j220, j221, j222, j223, j224, j225, j226, j227, j228, j229, j230, j231, j232, j233, j234, j235, j236, j237, j238, j239, j240, j241, j242, j243, j244, j245, j246, j247, j248, j249, j250, j251, j252, j253, j254], defers := [] } W') :
    (navC [1, 1, 1, 1, 1, 1, 1, 0, 1, 1, 1, 1, 0] (Tryd.f5.body.getD .skip)).wp Tryd.prog Q0 { tmps := #[.slice (some ⟨xb, xo, none⟩) xl xc, .int .u8 wide, j2, j3, j4, j5, j6, v7, v8, v9, v10, .int .i64 S, .int .i64 k, j13, j14, j15, j16, j17, j18, j19, j20, j21, j22, j23, j24, j25, j26, j27, j28, j29, j30, j31, j32, j33, j34, j35, j36, j37, j38, j39, j40, j41, j42, j43, j44, j45, j46, j47, j48, j49, j50, j51, j52, j53, j54, j55, j56, j57, j58, j59, j60, j61, j62, j63, j64, j65, j66, j67, j68, j69, j70, j71, j72, j73, j74, j75, j76, j77, j78, j79, j80, j81, j82, j83, j84, j85, j86, j87, j88, j89, j90, j91, j92, j93, j94, j95, j96, j97, j98, j99, j100, j101, j102, j103, j104, j105, j106, j107, j108, j109, j110, j111, j112, j113, j114, j115, j116, j117, j118, j119, j120, j121, j122, j123, j124, j125, j126, j127, j128, j129, j130, j131, j132, j133, j134, j135, j136, j137, j138, j139, j140, j141, j142, j143, j144, j145, j146, j147, j148, j149, j150, j151, j152, j153, j154, j155, j156, j157, j158, j159, j160, j161, j162, j163, j164, j165, j166, j167, j168, j169, j170, j171, j172, j173, j174, j175, j176, j177, j178, j179, j180, j181, j182, j183, j184, j185, j186, j187, j188, j189, j190, j191, j192, j193, j194, j195, j196, j197, j198, j199, j200, j201, j202, j203, j204, j205, j206, j207, j208, j209, j210, j211, j212, j213, j214, j215, j216, j217, j218, j219, j220, j221, j222, j223, j224, j225, j226, j227, j228, j229, j230, j231, j232, j233, j234, j235, j236, j237, j238, j239, j240, j241, j242, j243, j244, j245, j246, j247, j248, j249, j250, j251, j252, j253, j254], defers := [] } W := by
  conv => arg 2; whnf
  have H0 := Lib.hid h0; clear h0
  have HC := Lib.hid hC; clear hC
  have HX := Lib.hid hX; clear hX
  go_upto_region 11 with (fail)
  refine reps11 W xb xo xl xc k hk c HX.out _ _ _ _ _ _ _ _ _ _ _ _ _ _ _ _ _ _ _ _ _ _ _ _ _ _ _ _ _ _ _ _ _ _ _ _ _ _ _ _ _ _ _ _ _ _ _ _ _ _ _ _ _ _ _ _ _ _ _ _ _ _ _ _ _ _ _ _ _ _ _ _ _ _ _ _ _ _ _ _ _ _ _ _ _ _ _ _ _ _ _ _ _ _ _ _ _ _ _ _ _ _ _ _ _ _ _ _ _ _ _ _ _ _ _ _ _ _ _ _ _ _ _ _ _ _ _ _ _ _ _ _ _ _ _ _ _ _ _ _ _ _ _ _ _ _ _ _ _ _ _ _ _ _ _ _ _ _ _ _ _ _ _ _ _ _ _ _ _ _ _ _ _ _ _ _ _ _ _ _ _ _ _ _ _ _ _ _ _ _ _ _ _ _ _ _ _ _ _ _ _ _ _ _ _ _ _ _ _ _ _ _ _ _ _ _ _ _ _ _ _ _ _ _ _ _ _ _ _ _ _ _ _ _ _ _ _ _ _ _ _ _ _ _ _ _ _ _ _ _ _ _ _ _ ?_
  intro A j35 j36 j37 j38 j39 j40 j41 j42 j43 j44 j45 j46 j47 j48 j49 j50 j51 j52 j53 j54 j55 j56 j57 j58 j59 W1 hB1 hA1
  have HC1 := Lib.hid (HC.out.closed hB1.below)
  have hb := hB1.blocks
  simp only [List.forall_mem_cons, List.not_mem_nil, false_imp_iff, implies_true, and_true] at hb
  have HA1 := Lib.hid hb
  have hbg1 := hB1.big
  clear hb hB1
  go_upto_region 12 with (fail)
  refine reps12 W1 wide k r hk9 hw hr _ _ _ _ _ _ _ _ _ _ _ _ _ _ _ _ _ _ _ _ _ _ _ _ _ _ _ _ _ _ _ _ _ _ _ _ _ _ _ _ _ _ _ _ _ _ _ _ _ _ _ _ _ _ _ _ _ _ _ _ _ _ _ _ _ _ _ _ _ _ _ _ _ _ _ _ _ _ _ _ _ _ _ _ _ _ _ _ _ _ _ _ _ _ _ _ _ _ _ _ _ _ _ _ _ _ _ _ _ _ _ _ _ _ _ _ _ _ _ _ _ _ _ _ _ _ _ _ _ _ _ _ _ _ _ _ _ _ _ _ _ _ _ _ _ _ _ _ _ _ _ _ _ _ _ _ _ _ _ _ _ _ _ _ _ _ _ _ _ _ _ _ _ _ _ _ _ _ _ _ _ _ _ _ _ _ _ _ _ _ _ _ _ _ _ _ _ _ _ _ _ _ _ _ _ _ _ _ _ _ _ _ _ _ _ _ _ _ _ _ _ _ _ _ _ _ _ _ _ _ _ _ _ _ _ _ _ _ _ _ _ _ _ _ _ _ _ _ _ _ _ _ _ _ ?_
  intro j60 j61 j62 j63 j64 j65 j66 j67 j68 j69 j70 j71 W2 hB2
  have HC2 := Lib.hid (HC1.out.closed hB2.below)
  have HA2 : Hid (W2.heap[A]? = some (.cells (coc c) 26)) := Lib.hid (by rw [hB2.below.block A (Mild.lt_of_block HA1.out)]; exact HA1.out)
  have hbg2 := hB2.big
  clear hB2 HC1
  go_upto_region 13 with (fail)
  refine reps13 w0 W2 ns bs ls ts v7 v8 v9 v10 (nmB r k) hn1 HC2.out _ _ _ _ _ _ _ _ _ _ _ _ _ _ _ _ _ _ _ _ _ _ _ _ _ _ _ _ _ _ _ _ _ _ _ _ _ _ _ _ _ _ _ _ _ _ _ _ _ _ _ _ _ _ _ _ _ _ _ _ _ _ _ _ _ _ _ _ _ _ _ _ _ _ _ _ _ _ _ _ _ _ _ _ _ _ _ _ _ _ _ _ _ _ _ _ _ _ _ _ _ _ _ _ _ _ _ _ _ _ _ _ _ _ _ _ _ _ _ _ _ _ _ _ _ _ _ _ _ _ _ _ _ _ _ _ _ _ _ _ _ _ _ _ _ _ _ _ _ _ _ _ _ _ _ _ _ _ _ _ _ _ _ _ _ _ _ _ _ _ _ _ _ _ _ _ _ _ _ _ _ _ _ _ _ _ _ _ _ _ _ _ _ _ _ _ _ _ _ _ _ _ _ _ _ _ _ _ _ _ _ _ _ _ _ _ _ _ _ _ _ _ _ _ _ _ _ _ _ _ _ _ _ _ _ _ _ _ _ _ _ _ _ _ _ _ _ _ _ _ _ _ _ _ ?_
  intro u7 j72 j73 j74 j75 W3 hK3 hC3
  have HA3 : Hid (W3.heap[A]? = some (.cells (coc c) 26)) := Lib.hid (by
    rcases hK3 A with h | h | h
    · have := Mild.lt_of_block HA2.out; omega
    · have := (HC.out.nm.lt _ h).2; omega
    · rw [h]; exact HA2.out)
  have HC3 := Lib.hid hC3
  clear hK3 hC3 HC2
  go_upto_region 14 with (fail)
  refine reps14 w0 W3 (ns ++ [nmB r k]) bs ls ts u7 v8 v9 v10 c A HA3.out hn3 HC3.out _ _ _ _ _ _ _ _ _ _ _ _ _ _ _ _ _ _ _ _ _ _ _ _ _ _ _ _ _ _ _ _ _ _ _ _ _ _ _ _ _ _ _ _ _ _ _ _ _ _ _ _ _ _ _ _ _ _ _ _ _ _ _ _ _ _ _ _ _ _ _ _ _ _ _ _ _ _ _ _ _ _ _ _ _ _ _ _ _ _ _ _ _ _ _ _ _ _ _ _ _ _ _ _ _ _ _ _ _ _ _ _ _ _ _ _ _ _ _ _ _ _ _ _ _ _ _ _ _ _ _ _ _ _ _ _ _ _ _ _ _ _ _ _ _ _ _ _ _ _ _ _ _ _ _ _ _ _ _ _ _ _ _ _ _ _ _ _ _ _ _ _ _ _ _ _ _ _ _ _ _ _ _ _ _ _ _ _ _ _ _ _ _ _ _ _ _ _ _ _ _ _ _ _ _ _ _ _ _ _ _ _ _ _ _ _ _ _ _ _ _ _ _ _ _ _ _ _ _ _ _ _ _ _ _ _ _ _ _ _ _ _ _ _ _ _ _ _ _ _ _ _ _ _ ?_
  intro u9 j76 j77 j78 j79 W4 hK4 hC4
  have HA4 : Hid (W4.heap[A]? = some (.cells (coc c) 26)) := Lib.hid (by
    rcases hK4 A with h | h | h
    · have := Mild.lt_of_block HA3.out; omega
    · have := (HC.out.li.lt _ h).2; omega
    · rw [h]; exact HA3.out)
  have HC4 := Lib.hid hC4
  clear hK4 hC4 HC3
  obtain ⟨g8, cap8, h8⟩ := HC.out.r8
  obtain ⟨g10, cap10, h10⟩ := HC.out.r10
  subst h8
  subst h10
  go_upto_region 15 with (fail)
  refine reps15 w0 W4 (ns ++ [nmB r k]) bs (ls ++ [c]) ts u7 u9 (.slice (some ⟨g10, 0, none⟩) ts.length cap10) g8 cap8 (nmB r k) hn2 HC4.out _ _ _ _ _ _ _ _ _ _ _ _ _ _ _ _ _ _ _ _ _ _ _ _ _ _ _ _ _ _ _ _ _ _ _ _ _ _ _ _ _ _ _ _ _ _ _ _ _ _ _ _ _ _ _ _ _ _ _ _ _ _ _ _ _ _ _ _ _ _ _ _ _ _ _ _ _ _ _ _ _ _ _ _ _ _ _ _ _ _ _ _ _ _ _ _ _ _ _ _ _ _ _ _ _ _ _ _ _ _ _ _ _ _ _ _ _ _ _ _ _ _ _ _ _ _ _ _ _ _ _ _ _ _ _ _ _ _ _ _ _ _ _ _ _ _ _ _ _ _ _ _ _ _ _ _ _ _ _ _ _ _ _ _ _ _ _ _ _ _ _ _ _ _ _ _ _ _ _ _ _ _ _ _ _ _ _ _ _ _ _ _ _ _ _ _ _ _ _ _ _ _ _ _ _ _ _ _ _ _ _ _ _ _ _ _ _ _ _ _ _ _ _ _ _ _ _ _ _ _ _ _ _ _ _ _ _ _ _ _ _ _ _ _ _ _ _ _ _ _ _ _ _ _ ?_
  intro u8 j80 j81 j82 j83 W5 hK5 hC5
  have HA5 : Hid (W5.heap[A]? = some (.cells (coc c) 26)) := Lib.hid (by rw [hK5.block A (Mild.lt_of_block HA4.out)]; exact HA4.out)
  have HC5 := Lib.hid hC5
  clear hK5 hC5 HC4
  go_upto_region 16 with (fail)
  refine reps16 w0 W5 (ns ++ [nmB r k]) (nmB r k :: bs) (ls ++ [c]) ts u7 u8 u9 g10 cap10 c A HA5.out hn4 HC5.out _ _ _ _ _ _ _ _ _ _ _ _ _ _ _ _ _ _ _ _ _ _ _ _ _ _ _ _ _ _ _ _ _ _ _ _ _ _ _ _ _ _ _ _ _ _ _ _ _ _ _ _ _ _ _ _ _ _ _ _ _ _ _ _ _ _ _ _ _ _ _ _ _ _ _ _ _ _ _ _ _ _ _ _ _ _ _ _ _ _ _ _ _ _ _ _ _ _ _ _ _ _ _ _ _ _ _ _ _ _ _ _ _ _ _ _ _ _ _ _ _ _ _ _ _ _ _ _ _ _ _ _ _ _ _ _ _ _ _ _ _ _ _ _ _ _ _ _ _ _ _ _ _ _ _ _ _ _ _ _ _ _ _ _ _ _ _ _ _ _ _ _ _ _ _ _ _ _ _ _ _ _ _ _ _ _ _ _ _ _ _ _ _ _ _ _ _ _ _ _ _ _ _ _ _ _ _ _ _ _ _ _ _ _ _ _ _ _ _ _ _ _ _ _ _ _ _ _ _ _ _ _ _ _ _ _ _ _ _ _ _ _ _ _ _ _ _ _ _ _ _ _ _ _ ?_
  intro u10 j84 j85 j86 j87 W6 hK6 hC6
  have HA6 : Hid (W6.heap[A]? = some (.cells (coc c) 26)) := Lib.hid (by rw [hK6.block A (Mild.lt_of_block HA5.out)]; exact HA5.out)
  have HC6 := Lib.hid hC6
  clear hK6 hC6 HC5
  have cA := Mild.cell_of_block HA6.out
  go_wp2
  exact H0.out u7 u8 u9 u10 _ _ _ _ _ _ _ _ _ _ _ _ _ _ _ _ _ _ _ _ _ _ _ _ _ _ _ _ _ _ _ _ _ _ _ _ _ _ _ _ _ _ _ _ _ _ _ _ _ _ _ _ _ _ _ _ _ _ _ _ HC6.out
end Go.Proofs.YtajccjbigcdkbaaDoor
namespace Go.Proofs.YtajccjbigcdkbaaDoor
open Go.ChangeShapes Go.WideShapes Go.ChangeAt Go.RowKit
def nmsB (wide n : Nat) : List ByteArray := (List.range n).map fun k => nmB (wide * (k + 1) % 20) k
theorem nms_len (wide n : Nat) : (nmsB wide n).length = n := by simp [nmsB]
theorem nms_succ (wide k : Nat) : nmsB wide (k + 1) = nmsB wide k ++ [nmB (wide * (k + 1) % 20) k] := by simp [nmsB, List.range_succ]
theorem X4.keep {w0 W : World} {xb xo k : Nat} {c : Co} (h : X4 w0 xb xo k c) (hb : Below w0.heap.size w0 W) : X4 W xb xo k c :=
  ⟨Nat.lt_of_lt_of_le h.lt hb.size, (hb.cell (p := ⟨xb, _, none⟩) h.lt).trans h.a, (hb.cell (p := ⟨xb, _, none⟩) h.lt).trans h.b, (hb.cell (p := ⟨xb, _, none⟩) h.lt).trans h.c, (hb.cell (p := ⟨xb, _, none⟩) h.lt).trans h.d, h.low⟩
theorem take_one {α : Type} {l : List α} {k : Nat} (h : k < l.length) : l.take (k + 1) = l.take k ++ [l[k]] := List.take_succ_eq_append_getElem h
structure L4 (w0 : World) (wide k : Nat) (cs : List Co) (v7 v8 v9 v10 : Value) (W : World) : Prop where
  lc : LC w0 (nmsB wide k) (nmsB wide k).reverse (cs.take k) (cs.take k).reverse v7 v8 v9 v10 W
  r7 : IsRowV v7 k
  r9 : IsRowV v9 k

set_option maxRecDepth 100000 in
set_option maxHeartbeats 8000000 in
theorem reps_lists (w0 W : World) (n xl xc wide : Nat) (an : Option Addr) (cs : List Co) (hcs : cs.length = n) (hn9 : n ≤ 9) (hnx : n ≤ xl) (hw : wide < 256) (hX : ∀ k c, cs[k]? = some c → ∃ xb xo, an = some ⟨xb, xo, none⟩ ∧ X4 w0 xb xo k c) (v7 v8 v9 v10 : Value) (hC : L4 w0 wide 0 cs v7 v8 v9 v10 W)
    (j2 j3 j4 j5 j13 j14 j15 j16 j17 j18 j19 j20 j21 j22 j23 j24 j25 j26 j27 j28 j29 j30 j31 j32 j33 j34 j35 j36 j37 j38 j39 j40 j41 j42 j43 j44 j45 j46 j47 j48 j49 j50 j51 j52 j53 j54 j55 j56 j57 j58 j59 j60 j61 j62 j63 j64 j65 j66 j67 j68 j69 j70 j71 j72 j73 j74 j75 j76 j77 j78 j79 j80 j81 j82 j83 j84 j85 j86 j87 j88 j89 j90 j91 j92 j93 j94 j95 j96 j97 j98 j99 j100 j101 j102 j103 j104 j105 j106 j107 j108 j109 j110 j111 j112 j113 j114 j115 j116 j117 j118 j119 j120 j121 j122 j123 j124 j125 j126 j127 j128 j129 j130 j131 j132 j133 j134 j135 j136 j137 j138 j139 j140 j141 j142 j143 j144 j145 j146 j147 j148 j149 j150 j151 j152 j153 j154 j155 j156 j157 j158 j159 j160 j161 j162 j163 j164 j165 j166 j167 j168 j169 j170 j171 j172 j173 j174 j175 j176 j177 j178 j179 j180 j181 j182 j183 j184 j185 j186 j187 j188 j189 j190 j191 j192 j193 j194 j195 j196 j197 j198 j199 j200 j201 j202 j203 j204 j205 j206 j207 j208 j209 j210 j211 j212 j213 j214 j215 j216 j217 j218 j219 j220 j221 j222 j223 j224 j225 j226 j227 j228 j229 j230 j231 j232 j233 j234 j235 j236 j237 j238 j239 j240 j241 j242 j243 j244 j245 j246 j247 j248 j249 j250 j251 j252 j253 j254 : Value) (Q0 : Exit → Act → World → Prop)
    (h0 : ∀ u7 u8 u9 u10 j12 j13 j14 j30 j31 j32 j33 j34 j35 j36 j37 j38 j39 j40 j41 j42 j43 j44 j45 j46 j47 j48 j49 j50 j51 j52 j53 j54 j55 j56 j57 j58 j59 j60 j61 j62 j63 j64 j65 j66 j67 j68 j69 j70 j71 j72 j73 j74 j75 j76 j77 j78 j79 j80 j81 j82 j83 j84 j85 j86 j87 j88 j89 j90 j91 W', L4 w0 wide n cs u7 u8 u9 u10 W' → Q0 .normal { tmps := #[.slice an xl xc, .int .u8 wide, j2, j3, j4, j5, .int .i64 n, u7, u8, u9, u10, .int .i64 (sumM cs).d, j12, j13, j14, j15, j16, j17, j18, j19, j20, j21, j22, j23, j24, j25, j26, j27, j28, j29, j30, j31, j32, j33, j34, j35, j36, j37, j38, j39, j40, j41, j42, j43, j44, j45, j46, j47, j48, j49, j50, j51, j52, j53, j54, j55, j56, j57, j58, j59, j60, j61, j62, j63, j64, j65, j66, j67, j68, j69, j70, j71, j72, j73, j74, j75, j76, j77, j78, j79, j80, j81, j82, j83, j84, j85, j86, j87, j88, j89, j90, j91, j92, j93, j94, j95, j96, j97, j98, j99, j100, j101, j102, j103, j104, j105, j106, j107, j108, j109, j110, j111, j112, j113, j114, j115, j116, j117, j118, j119, j120, j121, j122, j123, j124, j125, j126, j127, j128, j129, j130, j131, j132, j133, j134, j135, j136, j137, j138, j139, j140, j141, j142, j143, j144, j145, j146, j147, j148, j149, j150, j151, j152, j153, j154, j155, j156, j157, j158, j159, j160, j161, j162, j163, j164, j165, j166, j167, j168, j169, j170, j171, j172, j173, j174, j175, j176, j177, j178, j179, j180, j181, j182, j183, j184, j185, j186, j187, j188, j189, j190, j191, j192, j193, j194, j195, j196, j197, j198, j199, j200, j201, j202, j203, j204, j205, j206, j207, j208, j209, j210, j211, j212, j213, j214, j215, j216, j217, j218, j219, j220, j221, j222, j223, j224, j225, j226, j227, j228, j229, j230, j231, j232, j233, j234, j235, j236, j237, j238, j239, j240, j241, j242, j243, j244, j245, j246, j247, j248, j249, j250, j251, j252, j253, j254], defers := [] } W') :
    (navC [1, 1, 1, 1, 1, 1, 1, 0, 1] (Tryd.f5.body.getD .skip)).wp Tryd.prog Q0 { tmps := #[.slice an xl xc, .int .u8 wide, j2, j3, j4, j5, .int .i64 n, v7, v8, v9, v10, .int .i64 0, .int .i64 0, j13, j14, j15, j16, j17, j18, j19, j20, j21, j22, j23, j24, j25, j26, j27, j28, j29, j30, j31, j32, j33, j34, j35, j36, j37, j38, j39, j40, j41, j42, j43, j44, j45, j46, j47, j48, j49, j50, j51, j52, j53, j54, j55, j56, j57, j58, j59, j60, j61, j62, j63, j64, j65, j66, j67, j68, j69, j70, j71, j72, j73, j74, j75, j76, j77, j78, j79, j80, j81, j82, j83, j84, j85, j86, j87, j88, j89, j90, j91, j92, j93, j94, j95, j96, j97, j98, j99, j100, j101, j102, j103, j104, j105, j106, j107, j108, j109, j110, j111, j112, j113, j114, j115, j116, j117, j118, j119, j120, j121, j122, j123, j124, j125, j126, j127, j128, j129, j130, j131, j132, j133, j134, j135, j136, j137, j138, j139, j140, j141, j142, j143, j144, j145, j146, j147, j148, j149, j150, j151, j152, j153, j154, j155, j156, j157, j158, j159, j160, j161, j162, j163, j164, j165, j166, j167, j168, j169, j170, j171, j172, j173, j174, j175, j176, j177, j178, j179, j180, j181, j182, j183, j184, j185, j186, j187, j188, j189, j190, j191, j192, j193, j194, j195, j196, j197, j198, j199, j200, j201, j202, j203, j204, j205, j206, j207, j208, j209, j210, j211, j212, j213, j214, j215, j216, j217, j218, j219, j220, j221, j222, j223, j224, j225, j226, j227, j228, j229, j230, j231, j232, j233, j234, j235, j236, j237, j238, j239, j240, j241, j242, j243, j244, j245, j246, j247, j248, j249, j250, j251, j252, j253, j254], defers := [] } W := by
  conv => arg 2; whnf
  have H0 := Lib.hid h0; clear h0
  have HC := Lib.hid hC; clear hC
  have HX := Lib.hid hX; clear hX
  have HCS := Lib.hid hcs; clear hcs
  have hnI : (n : Int) ≤ 9 := by omega
  go_wp2
  go_loopw [7, 8, 9, 10, 11, 12] (fun t7 t8 t9 t10 t11 t12 wr => ∃ k : Nat, k ≤ n ∧ t11 = .int .i64 (sumM (cs.take k)).d ∧ t12 = .int .i64 k ∧ Hid (L4 w0 wide k cs t7 t8 t9 t10 wr)) (fun _ _ _ _ _ i _ => n - (intOf i).toNat)
  case atStart => exact ⟨0, Nat.zero_le _, rfl, rfl, HC⟩
  case round =>
    obtain ⟨k, hk, rfl, rfl, hL⟩ := hrel
    by_cases hlt : k < n
    · have hq : (k : Int) < n := by omega
      have hkc : k < cs.length := by rw [HCS.out]; exact hlt
      obtain ⟨c, hc⟩ : ∃ c, cs[k]'hkc = c := ⟨_, rfl⟩
      have hc2 : cs[k]? = some c := by rw [List.getElem?_eq_getElem hkc, hc]
      obtain ⟨xb, xo, rfl, hx4⟩ := HX.out k c hc2
      obtain ⟨S, hS⟩ : ∃ S, (sumM (cs.take k)).d = S := ⟨_, rfl⟩
      have hS2 : (sumM (cs.take (k + 1))).d = wrap64 (S + c.d) := by
        rw [sum_take cs k hkc, hc, ← hS]; rfl
      have htk : cs.take (k + 1) = cs.take k ++ [c] := by rw [take_one hkc, hc]
      rw [hS]
      have HE := Lib.hid (And.intro hS2 htk)
      have HX4 := Lib.hid (hx4.keep hL.out.lc.below)
      clear hS hS2 htk hx4 hc hc2
      have hl1 : (nmsB wide k).length ≤ 100 := by rw [nms_len]; omega
      have hl2 : (nmsB wide k).reverse.length ≤ 100 := by rw [List.length_reverse]; exact hl1
      have hl3 : (cs.take k).length ≤ 100 := by rw [List.length_take]; omega
      have hl4 : (cs.take k).reverse.length ≤ 100 := by rw [List.length_reverse]; exact hl3
      go_upto_block 1 with (fail)
      refine reps_round w0 wr (nmsB wide k) _ (cs.take k) _ _ _ _ _ hl1 hl2 hl3 hl4 hL.out.lc xb xo xl xc k wide _ (by omega) (by omega) hw rfl c HX4.out S _ _ _ _ _ _ _ _ _ _ _ _ _ _ _ _ _ _ _ _ _ _ _ _ _ _ _ _ _ _ _ _ _ _ _ _ _ _ _ _ _ _ _ _ _ _ _ _ _ _ _ _ _ _ _ _ _ _ _ _ _ _ _ _ _ _ _ _ _ _ _ _ _ _ _ _ _ _ _ _ _ _ _ _ _ _ _ _ _ _ _ _ _ _ _ _ _ _ _ _ _ _ _ _ _ _ _ _ _ _ _ _ _ _ _ _ _ _ _ _ _ _ _ _ _ _ _ _ _ _ _ _ _ _ _ _ _ _ _ _ _ _ _ _ _ _ _ _ _ _ _ _ _ _ _ _ _ _ _ _ _ _ _ _ _ _ _ _ _ _ _ _ _ _ _ _ _ _ _ _ _ _ _ _ _ _ _ _ _ _ _ _ _ _ _ _ _ _ _ _ _ _ _ _ _ _ _ _ _ _ _ _ _ _ _ _ _ _ _ _ _ _ _ _ _ _ _ _ _ _ _ _ _ _ _ _ _ _ _ _ _ _ _ _ _ _ _ _ ?_
      intro y7 y8 y9 y10 j13 j14 j35 j36 j37 j38 j39 j40 j41 j42 j43 j44 j45 j46 j47 j48 j49 j50 j51 j52 j53 j54 j55 j56 j57 j58 j59 j60 j61 j62 j63 j64 j65 j66 j67 j68 j69 j70 j71 j72 j73 j74 j75 j76 j77 j78 j79 j80 j81 j82 j83 j84 j85 j86 j87 j88 j89 j90 j91 W1 hC1
      have hC2 : L4 w0 wide (k + 1) cs y7 y8 y9 y10 W1 := by
        have e := HE.out.2
        have hlen : (cs.take k).length + 1 = k + 1 := by rw [List.length_take]; omega
        refine ⟨?_, ?_, ?_⟩
        · rw [nms_succ, e, List.reverse_append, List.reverse_append]; exact hC1
        · have := own_row hC1.nm (by simp); rw [List.length_append, nms_len] at this; exact this
        · have := own_row hC1.li (by simp); rw [List.length_append, List.length_singleton, hlen] at this; exact this
      have HC2 := Lib.hid hC2
      clear hC1 hC2 hL HX4
      go_wp2
      go_roundw
      case rel => exact ⟨k + 1, by omega, by rw [HE.out.1], by go_num, HC2⟩
      case measure => simp [intOf]; omega
    · obtain rfl : k = n := by omega
      have hq : ¬ (k : Int) < k := by omega
      have ht : cs.take k = cs := by rw [← HCS.out]; exact List.take_length
      rw [ht]
      clear ht
      go_wp2
      exact H0.out _ _ _ _ _ _ _ _ _ _ _ _ _ _ _ _ _ _ _ _ _ _ _ _ _ _ _ _ _ _ _ _ _ _ _ _ _ _ _ _ _ _ _ _ _ _ _ _ _ _ _ _ _ _ _ _ _ _ _ _ _ _ _ _ _ _ _ _ _ _ hL.out
end Go.Proofs.YtajccjbigcdkbaaDoor
namespace Go.Proofs.YtajccjbigcdkbaaDoor
open Go.ChangeShapes Go.WideShapes Go.ChangeAt Go.RowKit
theorem flat4_get : ∀ (cs : List Co) (j : Nat) (h : j < cs.length), (cs.flatMap cells4)[j * 4]? = some (.int .i64 cs[j].a) ∧ (cs.flatMap cells4)[j * 4 + 1]? = some (.int .i64 cs[j].b) ∧ (cs.flatMap cells4)[j * 4 + 2]? = some (.int .i64 cs[j].c) ∧ (cs.flatMap cells4)[j * 4 + 3]? = some (.int .i64 cs[j].d)
  | c :: cs, 0, _ => by simp [List.flatMap_cons, cells4]
  | c :: cs, j + 1, h => by
    have := flat4_get cs j (by simpa using h)
    rw [List.flatMap_cons]
    have e : ∀ r, (j + 1) * 4 + r = (cells4 c).length + (j * 4 + r) := fun r => by simp [cells4]; omega
    have e0 := e 0
    simp only [Nat.add_zero] at e0
    rw [e0]
    simp only [Nat.add_assoc, List.getElem?_append_right (Nat.le_add_right _ _), Nat.add_sub_cancel_left, List.getElem_cons_succ]
    exact this
theorem row4_own {W : World} {base g cap : Nat} {cs : List Co} (h : W.ownsRow base 26 4 (.slice (some ⟨g, 0, none⟩) cs.length cap) cs.length (cs.flatMap cells4)) : Row4 W g 0 cs := fun j hj => by
  obtain ⟨a, b, c, d⟩ := flat4_get cs j hj
  have k : ∀ (i : Nat) x, (cs.flatMap cells4)[i]? = some x → W.cell? ⟨g, 0 + i, none⟩ = some x := fun i x hx => by
    have := h.cells (g := g) rfl i x hx
    rwa [add_plain] at this
  exact ⟨k _ _ a, k _ _ b, k _ _ c, k _ _ d⟩
theorem names_own {W : World} {base g cap : Nat} {ns : List ByteArray} (h : W.ownsRow base 9 1 (.slice (some ⟨g, 0, none⟩) ns.length cap) ns.length (ns.map Value.string)) : ∀ (j : Nat) x, ns[j]? = some x → ∃ nb no, (some ⟨g, 0, none⟩ : Option Addr) = some ⟨nb, no, none⟩ ∧ nb < W.heap.size ∧ W.cell? ⟨nb, no + j, none⟩ = some (.string x) := fun j x hx =>
  ⟨g, 0, rfl, (h.lt g rfl).2, by
    have := h.cells (g := g) rfl j (.string x) (by rw [List.getElem?_map, hx]; rfl)
    rwa [add_plain] at this⟩
theorem told_ce (names : List ByteArray) (cs : List Co) (an : Option Addr) (ncap lb lo lcap n : Nat) (s : ByteArray) (hs : Hid (reportT names cs = s ∧ reportE names cs = 0 ∧ names.length = n ∧ cs.length = n)) (w : World) (ht : Tabs w) (hN : ∀ (j : Nat) x, names[j]? = some x → ∃ nb no, an = some ⟨nb, no, none⟩ ∧ nb < w.heap.size ∧ w.cell? ⟨nb, no + j, none⟩ = some (.string x)) (hlb : lb < w.heap.size) (hrow : Row4 w lb lo cs) :
    Calls Tryd.prog 14 #[.slice an n ncap, .slice (some ⟨lb, lo, none⟩) n lcap] w fun e w' => e = .returned (.agg #[.string s, .int .i64 0]) ∧ Below w.heap.size w w' := by
  have := told_any names cs an ncap lb lo lcap w ht hN hlb hrow
  rw [hs.out.1, hs.out.2.1, hs.out.2.2.1, hs.out.2.2.2] at this
  exact this

set_option maxRecDepth 100000 in
set_option maxHeartbeats 8000000 in
theorem reps18 (w0 W : World) (ht : Tabs w0) (n g7 c7 g8 c8 g9 c9 g10 c10 : Nat) (ns bs : List ByteArray) (ls ts : List Co) (s1 s2 : ByteArray) (h1 : Hid (reportT ns ls = s1 ∧ reportE ns ls = 0 ∧ ns.length = n ∧ ls.length = n)) (h2 : Hid (reportT bs ts = s2 ∧ reportE bs ts = 0 ∧ bs.length = n ∧ ts.length = n))
    (hC : LC w0 ns bs ls ts (.slice (some ⟨g7, 0, none⟩) n c7) (.slice (some ⟨g8, 0, none⟩) n c8) (.slice (some ⟨g9, 0, none⟩) n c9) (.slice (some ⟨g10, 0, none⟩) n c10) W)
    (j0 j1 j2 j3 j4 j5 j6 j11 j12 j13 j14 j15 j16 j17 j18 j19 j20 j21 j22 j23 j24 j25 j26 j27 j28 j29 j30 j31 j32 j33 j34 j35 j36 j37 j38 j39 j40 j41 j42 j43 j44 j45 j46 j47 j48 j49 j50 j51 j52 j53 j54 j55 j56 j57 j58 j59 j60 j61 j62 j63 j64 j65 j66 j67 j68 j69 j70 j71 j72 j73 j74 j75 j76 j77 j78 j79 j80 j81 j82 j83 j84 j85 j86 j87 j88 j89 j90 j91 j92 j93 j94 j95 j96 j97 j98 j99 j100 j101 j102 j103 j104 j105 j106 j107 j108 j109 j110 j111 j112 j113 j114 j115 j116 j117 j118 j119 j120 j121 j122 j123 j124 j125 j126 j127 j128 j129 j130 j131 j132 j133 j134 j135 j136 j137 j138 j139 j140 j141 j142 j143 j144 j145 j146 j147 j148 j149 j150 j151 j152 j153 j154 j155 j156 j157 j158 j159 j160 j161 j162 j163 j164 j165 j166 j167 j168 j169 j170 j171 j172 j173 j174 j175 j176 j177 j178 j179 j180 j181 j182 j183 j184 j185 j186 j187 j188 j189 j190 j191 j192 j193 j194 j195 j196 j197 j198 j199 j200 j201 j202 j203 j204 j205 j206 j207 j208 j209 j210 j211 j212 j213 j214 j215 j216 j217 j218 j219 j220 j221 j222 j223 j224 j225 j226 j227 j228 j229 j230 j231 j232 j233 j234 j235 j236 j237 j238 j239 j240 j241 j242 j243 j244 j245 j246 j247 j248 j249 j250 j251 j252 j253 j254 : Value) (Q0 : Exit → Act → World → Prop)
    (h0 : ∀ R T j92 j93 j94 j95 j96 j97 W', Below W.heap.size W W' → W'.heap[R]? = some (.cells #[.string s1, .int .i64 0] 47) → W'.heap[T]? = some (.cells #[.string s2, .int .i64 0] 47) → Q0 .normal { tmps := #[j0, j1, j2, j3, j4, j5, j6, .slice (some ⟨g7, 0, none⟩) n c7, .slice (some ⟨g8, 0, none⟩) n c8, .slice (some ⟨g9, 0, none⟩) n c9, .slice (some ⟨g10, 0, none⟩) n c10, j11, j12, j13, j14, pt R 0, pt T 0, j17, j18, j19, j20, j21, j22, j23, j24, j25, j26, j27, j28, j29, j30, j31, j32, j33, j34, j35, j36, j37, j38, j39, j40, j41, j42, j43, j44, j45, j46, j47, j48, j49, j50, j51, j52, j53, j54, j55, j56, j57, j58, j59, j60, j61, j62, j63, j64, j65, j66, j67, j68, j69, j70, j71, j72, j73, j74, j75, j76, j77, j78, j79, j80, j81, j82, j83, j84, j85, j86, j87, j88, j89, j90, j91, j92, j93, j94, j95, j96, j97, j98, j99, j100, j101, j102, j103, j104, j105, j106, j107, j108, j109, j110, j111, j112, j113, j114, j115, j116, j117, j118, j119, j120, j121, j122, j123, j124, j125, j126, j127, j128, j129, j130, j131, j132, j133, j134, j135, j136, j137, j138, j139, j140, j141, j142, j143, j144, j145, j146, j147, j148, j149, j150, j151, j152, j153, j154, j155, j156, j157, j158, j159, j160, j161, j162, j163, j164, j165, j166, j167, j168, j169, j170, j171, j172, j173, j174, j175, j176, j177, j178, j179, j180, j181, j182, j183, j184, j185, j186, j187, j188, j189, j190, j191, j192, j193, j194, j195, j196, j197, j198, j199, j200, j201, j202, j203, j204, j205, j206, j207, j208, j209, j210, j211, j212, j213, j214, j215, j216, j217, j218, j219, j220, j221, j222, j223, j224, j225, j226, j227, j228, j229, j230, j231, j232, j233, j234, j235, j236, j237, j238, j239, j240, j241, j242, j243, j244, j245, j246, j247, j248, j249, j250, j251, j252, j253, j254], defers := [] } W') :
    (navC [1, 1, 1, 1, 1, 1, 1, 1, 0] (Tryd.f5.body.getD .skip)).wp Tryd.prog Q0 { tmps := #[j0, j1, j2, j3, j4, j5, j6, .slice (some ⟨g7, 0, none⟩) n c7, .slice (some ⟨g8, 0, none⟩) n c8, .slice (some ⟨g9, 0, none⟩) n c9, .slice (some ⟨g10, 0, none⟩) n c10, j11, j12, j13, j14, j15, j16, j17, j18, j19, j20, j21, j22, j23, j24, j25, j26, j27, j28, j29, j30, j31, j32, j33, j34, j35, j36, j37, j38, j39, j40, j41, j42, j43, j44, j45, j46, j47, j48, j49, j50, j51, j52, j53, j54, j55, j56, j57, j58, j59, j60, j61, j62, j63, j64, j65, j66, j67, j68, j69, j70, j71, j72, j73, j74, j75, j76, j77, j78, j79, j80, j81, j82, j83, j84, j85, j86, j87, j88, j89, j90, j91, j92, j93, j94, j95, j96, j97, j98, j99, j100, j101, j102, j103, j104, j105, j106, j107, j108, j109, j110, j111, j112, j113, j114, j115, j116, j117, j118, j119, j120, j121, j122, j123, j124, j125, j126, j127, j128, j129, j130, j131, j132, j133, j134, j135, j136, j137, j138, j139, j140, j141, j142, j143, j144, j145, j146, j147, j148, j149, j150, j151, j152, j153, j154, j155, j156, j157, j158, j159, j160, j161, j162, j163, j164, j165, j166, j167, j168, j169, j170, j171, j172, j173, j174, j175, j176, j177, j178, j179, j180, j181, j182, j183, j184, j185, j186, j187, j188, j189, j190, j191, j192, j193, j194, j195, j196, j197, j198, j199, j200, j201, j202, j203, j204, j205, j206, j207, j208, j209, j210, j211, j212, j213, j214, j215, j216, j217, j218, j219, j220, j221, j222, j223, j224, j225, j226, j227, j228, j229, j230, j231, j232, j233, j234, j235, j236, j237, j238, j239, j240, j241, j242, j243, j244, j245, j246, j247, j248, j249, j250, j251, j252, j253, j254], defers := [] } W := by
  conv => arg 2; whnf
  have H0 := Lib.hid h0; clear h0
  have HC := Lib.hid hC; clear hC
  have HT := Lib.hid (ht.below HC.out.below); clear ht
  have hc1 : Calls Tryd.prog 14 #[.slice (some ⟨g7, 0, none⟩) n c7, .slice (some ⟨g9, 0, none⟩) n c9] W fun e w' => e = .returned (.agg #[.string s1, .int .i64 0]) ∧ Below W.heap.size W w' := by
    have k1 := HC.out.nm
    have k2 := HC.out.li
    have e1 := h1.out.2.2.1
    have e2 := h1.out.2.2.2
    refine told_ce ns ls _ c7 g9 0 c9 n s1 h1 W HT.out (names_own (g := g7) (cap := c7) (base := w0.heap.size) (by rw [e1]; rw [e1] at k1; exact k1)) (k2.lt g9 rfl).2 (row4_own (cap := c9) (base := w0.heap.size) (by rw [e2]; rw [e2] at k2; exact k2))
  have hc2 : ∀ W1, Below W.heap.size W W1 → Calls Tryd.prog 14 #[.slice (some ⟨g8, 0, none⟩) n c8, .slice (some ⟨g10, 0, none⟩) n c10] W1 fun e w' => e = .returned (.agg #[.string s2, .int .i64 0]) ∧ Below W1.heap.size W1 w' := fun W1 hb => by
    have k1 := own_below HC.out.bk hb
    have k2 := own_below HC.out.tu hb
    have e1 := h2.out.2.2.1
    have e2 := h2.out.2.2.2
    refine told_ce bs ts _ c8 g10 0 c10 n s2 h2 W1 (HT.out.below hb) (names_own (g := g8) (cap := c8) (base := w0.heap.size) (by rw [e1]; rw [e1] at k1; exact k1)) (k2.lt g10 rfl).2 (row4_own (cap := c10) (base := w0.heap.size) (by rw [e2]; rw [e2] at k2; exact k2))
  have HC1 := Lib.hid hc1
  have HC2 := Lib.hid hc2
  clear hc1 hc2 h1 h2 HC HT
  have hbig : ∀ w2, Below W.heap.size W w2 → W.heap.size ≤ w2.heap.size := fun w2 h => h.size
  go_wp2_with (go_at_call 14; first | (refine HC1.out.mono ?_; rintro e w1 ⟨rfl, hb1⟩; have HB1 := Lib.hid hb1; clear hb1 HC1) | (refine (HC2.out w1 HB1.out).mono ?_; rintro e w2 ⟨rfl, hb2⟩; have HB2 := Lib.hid (HB1.out.trans (hb2.mono HB1.out.size)); clear hb2 HB1 HC2))
  have hb := HB2.out
  have hs := hbig _ hb
  refine H0.out w2.heap.size (w2.heap.size + 1) _ _ _ _ _ _ _ ((hb.alloc hs _).alloc (by rw [World.size_alloc]; omega) _) (Mild.alloc_lt _ (Mild.alloc_at _ _)) ?_
  have := Mild.alloc_at (w2.alloc (.cells #[.string s1, .int .i64 0] 47)) (.cells #[.string s2, .int .i64 0] 47)
  rwa [World.size_alloc] at this
end Go.Proofs.YtajccjbigcdkbaaDoor
