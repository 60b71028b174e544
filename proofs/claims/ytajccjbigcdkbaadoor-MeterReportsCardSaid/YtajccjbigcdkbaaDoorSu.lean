/- The second loop of MeterReports: each line of the two reports is looked at. -/
import Derived.Test.YtajccjbigcdkbaaDoorSm
import Derived.Test.YtajccjbigcdkbaaDoorSp
import Derived.Test.YtajccjbigcdkbaaDoorSq
import Derived.Test.YtajccjbigcdkbaaDoorSk
import Derived.Test.YtajccjbigcdkbaaDoorSo
import Derived.Test.YtajccjbigcdkbaaDoorPd
-- USEBDN
set_option linter.unusedSimpArgs false
set_option linter.unusedVariables false
namespace Go.Proofs.YtajccjbigcdkbaaDoor
open Go.ChangeShapes Go.WideShapes Go.ChangeAt Go.RowKit
theorem of_list (s : ByteArray) : (⟨s.data.toList.toArray⟩ : ByteArray) = s := by cases s; simp
theorem last_is {X L : ByteArray} {pre : List UInt8} (hs : X.data.toList = pre ++ 32 :: L.data.toList) (hL : ∀ b ∈ L.data.toList, b ≠ 32) (hz : X.size < 4294967281) : LastIs X L := fun w => by
  have := last_any X pre L.data.toList hs hL hz w
  rwa [of_list] at this
theorem dig_is {X : ByteArray} {pre : List UInt8} {d : Int} (h0 : 0 ≤ d) (hs : X.data.toList = pre ++ 32 :: (dig d).data.toList) (hz : X.size < 4294967281) : LastIs X (dig d) :=
  last_is hs (fun b hb e => dig_no d h0 32 (by decide) (e ▸ hb)) hz
theorem pars_is {d : Int} (h0 : 0 ≤ d) (h1 : d ≤ 600000) (hz : (dig d).size < 10000) : ParsIs (pfxB ++ dig d) d := fun w ht =>
  parsed_ce _ (by rw [ByteArray.size_append, show pfxB.size = 37 from rfl]; omega) ⟨0, 0, 0, d⟩ 0 (Lib.hid (pfx_parse d h0 h1)) w ht
theorem suf_size {X L : ByteArray} {pre : List UInt8} (hs : X.data.toList = pre ++ 32 :: L.data.toList) : L.size < X.size := by
  rw [← size_list X, hs, List.length_append, List.length_cons, size_list]; omega
theorem pre_size {X x : ByteArray} {rest : List UInt8} (hs : X.data.toList = x.data.toList ++ 32 :: rest) : x.size < X.size := by
  rw [← size_list X, hs, List.length_append, List.length_cons, size_list]; omega
theorem pre_ext {X x : ByteArray} {rest : List UInt8} (hs : X.data.toList = x.data.toList ++ 32 :: rest) : X.extract 0 (x.size + 1) = x ++ ⟨#[32]⟩ := by
  refine bytes_inj ?_
  rw [extract_list, hs, List.drop_zero, ByteArray.data_append, Array.toList_append, show x.data.toList ++ 32 :: rest = (x.data.toList ++ [32]) ++ rest by simp, List.take_left' (by simp [size_list])]
/-- What the second loop is handed. -/
structure Lns (n : Nat) (names : List ByteArray) (cs : List Co) (A Z : ByteArray) (M : List ByteArray) (pc qc nc kc : Array Value) : Prop where
  fit : Fit names cs
  len : cs.length = n
  few : n ≤ 9
  mlen : M.length = n
  lines : linesM names cs = A :: M ++ [Z]
  mid : ∀ (i : Nat) l, M[i]? = some l → ∃ x c, names[i]? = some x ∧ cs[i]? = some c ∧ (∃ rest, l.data.toList = x.data.toList ++ 32 :: rest) ∧ ∃ pre, l.data.toList = pre ++ 32 :: (dig c.d).data.toList
  fin : ∃ pre, Z.data.toList = pre ++ 32 :: (dig (sumM cs).d).data.toList
  p : ∀ (i : Nat) X, (A :: M ++ [Z])[i]? = some X → pc[i]? = some (.string X)
  q : ∀ (i : Nat) X, (A :: M.reverse ++ [Z])[i]? = some X → qc[i]? = some (.string X)
  nn : ∀ (i : Nat) x, names[i]? = some x → nc[i]? = some (.string x)
  kk : ∀ (j : Nat) c, cs[j]? = some c → kc[j * 4 + 3]? = some (.int .i64 c.d)
theorem Lns.size {n : Nat} {names : List ByteArray} {cs : List Co} {A Z : ByteArray} {M : List ByteArray} {pc qc nc kc : Array Value} (h : Lns n names cs A Z M pc qc nc kc) : ∃ z, z ≤ 5008 ∧ ∀ (i : Nat) X, (A :: M ++ [Z])[i]? = some X → X.size = z := by
  obtain ⟨z, hz, hall⟩ := lines_size h.fit
  exact ⟨z, hz, fun i X hX => hall X (by rw [h.lines]; exact List.mem_of_getElem? hX)⟩
theorem Lns.at {n : Nat} {names : List ByteArray} {cs : List Co} {A Z : ByteArray} {M : List ByteArray} {pc qc nc kc : Array Value} (h : Lns n names cs A Z M pc qc nc kc) {j : Nat} {X : ByteArray} (hX : M[j]? = some X) :
    pc[j + 1]? = some (.string X) ∧ qc[n - j]? = some (.string X) ∧ X.size = A.size ∧ X.size ≤ 5008 := by
  obtain ⟨z, hz, hall⟩ := h.size
  have hj : j < M.length := (List.getElem?_eq_some_iff.1 hX).1
  have hm := h.mlen
  have h1 : (A :: M ++ [Z])[j + 1]? = some X := by
    rw [List.cons_append, List.getElem?_cons_succ, List.getElem?_append_left hj, hX]
  have h2 : (A :: M.reverse ++ [Z])[n - j]? = some X := by
    have e : n - j = (n - 1 - j) + 1 := by omega
    rw [e, List.cons_append, List.getElem?_cons_succ, List.getElem?_append_left (by simp; omega), List.getElem?_reverse (by omega), hm]
    rw [show n - 1 - (n - 1 - j) = j by omega, hX]
  exact ⟨h.p _ _ h1, h.q _ _ h2, by rw [hall _ _ h1, hall 0 A rfl], by rw [hall _ _ h1]; exact hz⟩

set_option maxRecDepth 100000 in
set_option maxHeartbeats 8000000 in
theorem reps_loop2 (w0 W : World) (ht : Tabs w0) (P Qb g7 c7 g9 c9 n ln lm lc ld : Nat) (hln : ln = n + 2) (hlm : lm = n + 2) (names : List ByteArray) (cs : List Co) (A Z : ByteArray) (M : List ByteArray) (pc qc nc kc : Array Value) (hL : Lns n names cs A Z M pc qc nc kc)
    (hC : Mild.Bks w0.heap.size w0 [(P, .cells pc 9), (Qb, .cells qc 9), (g7, .cells nc 9), (g9, .cells kc 26)] W)
    (j0 j1 j2 j3 j4 j5 j8 j10 j11 j12 j13 j14 j15 j16 j20 j21 j22 j23 j24 j25 j26 j27 j28 j29 j30 j31 j32 j33 j34 j35 j36 j37 j38 j39 j40 j41 j42 j43 j44 j45 j46 j47 j48 j49 j50 j51 j52 j53 j54 j55 j56 j57 j58 j59 j60 j61 j62 j63 j64 j65 j66 j67 j68 j69 j70 j71 j72 j73 j74 j75 j76 j77 j78 j79 j80 j81 j82 j83 j84 j85 j86 j87 j88 j89 j90 j91 j92 j93 j94 j95 j96 j97 j98 j99 j100 j101 j102 j103 j104 j105 j106 j107 j108 j109 j110 j111 j112 j113 j114 j115 j116 j117 j118 j119 j120 j121 j122 j123 j124 j125 j126 j127 j128 j129 j130 j131 j132 j133 j134 j135 j136 j137 j138 j139 j140 j141 j142 j143 j144 j145 j146 j147 j148 j149 j150 j151 j152 j153 j154 j155 j156 j157 j158 j159 j160 j161 j162 j163 j164 j165 j166 j167 j168 j169 j170 j171 j172 j173 j174 j175 j176 j177 j178 j179 j180 j181 j182 j183 j184 j185 j186 j187 j188 j189 j190 j191 j192 j193 j194 j195 j196 j197 j198 j199 j200 j201 j202 j203 j204 j205 j206 j207 j208 j209 j210 j211 j212 j213 j214 j215 j216 j217 j218 j219 j220 j221 j222 j223 j224 j225 j226 j227 j228 j229 j230 j231 j232 j233 j234 j235 j236 j237 j238 j239 j240 j241 j242 j243 j244 j245 j246 j247 j248 j249 j250 j251 j252 j253 j254 : Value) (Q0 : Exit → Act → World → Prop)
    (h0 : ∀ j4 j19 j148 j149 j150 j151 j152 j153 j154 j155 j156 j157 j158 j159 j160 j161 j162 j163 j164 j165 j166 j167 j168 j169 j170 j171 j172 j173 j174 j175 j176 j177 j178 j179 j180 j181 j182 j183 j184 j185 j186 j187 j188 j189 j190 j191 j192 j193 j194 j195 j196 j197 j198 j199 j200 j201 j202 j203 j204 j205 j206 j207 j208 j209 j210 j211 j212 j213 j214 j215 j216 j217 j218 j219 j220 j221 j222 j223 j224 j225 j226 j227 j228 j229 j230 j231 j232 j233 j234 j235 j236 j237 j238 j239 W', Mild.Bks w0.heap.size w0 [(P, .cells pc 9), (Qb, .cells qc 9), (g7, .cells nc 9), (g9, .cells kc 26)] W' → Q0 .normal { tmps := #[j0, j1, j2, j3, j4, j5, .int .i64 n, .slice (some ⟨g7, 0, none⟩) n c7, j8, .slice (some ⟨g9, 0, none⟩) n c9, j10, j11, j12, j13, j14, j15, j16, .slice (some ⟨P, 0, none⟩) ln lc, .slice (some ⟨Qb, 0, none⟩) lm ld, j19, j20, j21, j22, j23, j24, j25, j26, j27, j28, j29, j30, j31, j32, j33, j34, j35, j36, j37, j38, j39, j40, j41, j42, j43, j44, j45, j46, j47, j48, j49, j50, j51, j52, j53, j54, j55, j56, j57, j58, j59, j60, j61, j62, j63, j64, j65, j66, j67, j68, j69, j70, j71, j72, j73, j74, j75, j76, j77, j78, j79, j80, j81, j82, j83, j84, j85, j86, j87, j88, j89, j90, j91, j92, j93, j94, j95, j96, j97, j98, j99, j100, j101, j102, j103, j104, j105, j106, j107, j108, j109, j110, j111, j112, j113, j114, j115, j116, j117, j118, j119, j120, j121, j122, j123, j124, j125, j126, j127, j128, j129, j130, j131, j132, j133, j134, j135, j136, j137, j138, j139, j140, j141, j142, j143, j144, j145, j146, j147, j148, j149, j150, j151, j152, j153, j154, j155, j156, j157, j158, j159, j160, j161, j162, j163, j164, j165, j166, j167, j168, j169, j170, j171, j172, j173, j174, j175, j176, j177, j178, j179, j180, j181, j182, j183, j184, j185, j186, j187, j188, j189, j190, j191, j192, j193, j194, j195, j196, j197, j198, j199, j200, j201, j202, j203, j204, j205, j206, j207, j208, j209, j210, j211, j212, j213, j214, j215, j216, j217, j218, j219, j220, j221, j222, j223, j224, j225, j226, j227, j228, j229, j230, j231, j232, j233, j234, j235, j236, j237, j238, j239, j240, j241, j242, j243, j244, j245, j246, j247, j248, j249, j250, j251, j252, j253, j254], defers := [] } W') :
    (navC [1, 1, 1, 1, 1, 1, 1, 1, 1, 1, 1, 0, 1] (Tryd.f5.body.getD .skip)).wp Tryd.prog Q0 { tmps := #[j0, j1, j2, j3, j4, j5, .int .i64 n, .slice (some ⟨g7, 0, none⟩) n c7, j8, .slice (some ⟨g9, 0, none⟩) n c9, j10, j11, j12, j13, j14, j15, j16, .slice (some ⟨P, 0, none⟩) ln lc, .slice (some ⟨Qb, 0, none⟩) lm ld, .int .i64 0, j20, j21, j22, j23, j24, j25, j26, j27, j28, j29, j30, j31, j32, j33, j34, j35, j36, j37, j38, j39, j40, j41, j42, j43, j44, j45, j46, j47, j48, j49, j50, j51, j52, j53, j54, j55, j56, j57, j58, j59, j60, j61, j62, j63, j64, j65, j66, j67, j68, j69, j70, j71, j72, j73, j74, j75, j76, j77, j78, j79, j80, j81, j82, j83, j84, j85, j86, j87, j88, j89, j90, j91, j92, j93, j94, j95, j96, j97, j98, j99, j100, j101, j102, j103, j104, j105, j106, j107, j108, j109, j110, j111, j112, j113, j114, j115, j116, j117, j118, j119, j120, j121, j122, j123, j124, j125, j126, j127, j128, j129, j130, j131, j132, j133, j134, j135, j136, j137, j138, j139, j140, j141, j142, j143, j144, j145, j146, j147, j148, j149, j150, j151, j152, j153, j154, j155, j156, j157, j158, j159, j160, j161, j162, j163, j164, j165, j166, j167, j168, j169, j170, j171, j172, j173, j174, j175, j176, j177, j178, j179, j180, j181, j182, j183, j184, j185, j186, j187, j188, j189, j190, j191, j192, j193, j194, j195, j196, j197, j198, j199, j200, j201, j202, j203, j204, j205, j206, j207, j208, j209, j210, j211, j212, j213, j214, j215, j216, j217, j218, j219, j220, j221, j222, j223, j224, j225, j226, j227, j228, j229, j230, j231, j232, j233, j234, j235, j236, j237, j238, j239, j240, j241, j242, j243, j244, j245, j246, j247, j248, j249, j250, j251, j252, j253, j254], defers := [] } W := by
  conv => arg 2; whnf
  have H0 := Lib.hid h0; clear h0
  have HC := Lib.hid hC; clear hC
  have HL := Lib.hid hL
  have HT := Lib.hid ht; clear ht
  have hnI : (n : Int) ≤ 9 := by have := hL.few; omega
  have HLL := Lib.hid (And.intro hln hlm)
  clear hln hlm hL
  go_wp2
  go_loopw [19] (fun t19 wr => ∃ k : Nat, k ≤ n + 2 ∧ t19 = .int .i64 k ∧ Hid (Mild.Bks w0.heap.size w0 [(P, .cells pc 9), (Qb, .cells qc 9), (g7, .cells nc 9), (g9, .cells kc 26)] wr)) (fun i _ => n + 2 - (intOf i).toNat)
  case atStart => exact ⟨0, Nat.zero_le _, rfl, HC⟩
  case round =>
    obtain ⟨k, hk, rfl, hW⟩ := hrel
    by_cases hlt : k < n + 2
    · have hq : (k : Int) < (n : Int) + 2 := by omega
      have hkl : k < ln := by have := HLL.out.1; omega
      obtain ⟨z, hz, hall⟩ := HL.out.size
      have p0 : pc[0]? = some (.string A) := HL.out.p 0 A rfl
      have hA := hall 0 A rfl
      have HA := Lib.hid hall; clear hall
      have hlen := HL.out.mlen
      go_upto_block 3 with (fail)
      rcases Nat.eq_zero_or_pos k with h1 | h1
      · subst h1
        go_upto_region 25 with (fail)
        refine reps25a w0 _ P Qb g7 c7 g9 c9 n 0 ln lm lc ld (by simp) hkl A A rfl pc qc nc kc p0 p0 hW.out _ _ _ _ _ _ _ _ _ _ _ _ _ _ _ _ _ _ _ _ _ _ _ _ _ _ _ _ _ _ _ _ _ _ _ _ _ _ _ _ _ _ _ _ _ _ _ _ _ _ _ _ _ _ _ _ _ _ _ _ _ _ _ _ _ _ _ _ _ _ _ _ _ _ _ _ _ _ _ _ _ _ _ _ _ _ _ _ _ _ _ _ _ _ _ _ _ _ _ _ _ _ _ _ _ _ _ _ _ _ _ _ _ _ _ _ _ _ _ _ _ _ _ _ _ _ _ _ _ _ _ _ _ _ _ _ _ _ _ _ _ _ _ _ _ _ _ _ _ _ _ _ _ _ _ _ _ _ _ _ _ _ _ _ _ _ _ _ _ _ _ _ _ _ _ _ _ _ _ _ _ _ _ _ _ _ _ _ _ _ _ _ _ _ _ _ _ _ _ _ _ _ _ _ _ _ _ _ _ _ _ _ _ _ _ _ _ _ _ _ _ _ _ _ _ _ _ _ _ _ _ _ _ _ _ _ _ _ _ _ _ _ _ _ _ _ _ _ _ _ ?_
        intro j154 j155 j156 j157 j158 j159 j160 j161 j162 j163 j164 j165 j166 j167 j168 j169 j170 j171 j172 j173 j174 j175 j176 j177 j178 j179 j180 j181 j182 j183 j184 j185 j186 j187 j188 j189 j190 j191 j192 j193 j194 j195 j196 j197 j198 j199 j200 j201 j202 j203 j204 j205 j206 j207 j208 j209 j210 j211 j212 j213 j214 j215 j216 j217 j218 j219 j220 j221 j222 j223 j224 j225 j226 j227 j228 j229 j230 j231 j232 j233 j234 j235 j236 j237 j238 W1 hC1
        have HC1 := Lib.hid hC1
        clear hC1 hW hlen hA p0
        go_wp2
        go_roundw
        case rel => exact ⟨1, by omega, by go_num, HC1⟩
        case measure => simp [intOf] <;> omega
      · by_cases h2 : k ≤ n
        · obtain ⟨j, rfl⟩ : ∃ j, k = j + 1 := ⟨k - 1, by omega⟩
          have hjm : j < M.length := by omega
          obtain ⟨a1, a2, a3, a4⟩ := HL.out.at (j := j) (List.getElem?_eq_getElem hjm)
          obtain ⟨x, c, e1, e2, ⟨rest, e3⟩, pre, e4⟩ := HL.out.mid j _ (List.getElem?_eq_getElem hjm)
          generalize M[j] = X at *
          have lowc := HL.out.fit.low c (List.mem_of_getElem? e2)
          have s1 := suf_size e4
          have HLi := Lib.hid (dig_is lowc.d.1 e4 (by omega))
          have HPi := Lib.hid (pars_is lowc.d.1 (by have := lowc.d.2; omega) (by omega))
          go_upto_region 25 with (fail)
          refine reps25c w0 _ HT.out P Qb g7 c7 g9 c9 n (j + 1) ln lm lc ld (n - j) j (by omega) (by omega) (by omega) (by omega) (by omega) hkl (by have := HLL.out.2; omega) A X x (dig c.d) c.d a3 (by omega) (pre_size e3) (pre_ext e3) (by omega) HLi HPi pc qc nc kc p0 a1 a2 (HL.out.nn j x e1) (HL.out.kk j c e2) hW.out _ _ _ _ _ _ _ _ _ _ _ _ _ _ _ _ _ _ _ _ _ _ _ _ _ _ _ _ _ _ _ _ _ _ _ _ _ _ _ _ _ _ _ _ _ _ _ _ _ _ _ _ _ _ _ _ _ _ _ _ _ _ _ _ _ _ _ _ _ _ _ _ _ _ _ _ _ _ _ _ _ _ _ _ _ _ _ _ _ _ _ _ _ _ _ _ _ _ _ _ _ _ _ _ _ _ _ _ _ _ _ _ _ _ _ _ _ _ _ _ _ _ _ _ _ _ _ _ _ _ _ _ _ _ _ _ _ _ _ _ _ _ _ _ _ _ _ _ _ _ _ _ _ _ _ _ _ _ _ _ _ _ _ _ _ _ _ _ _ _ _ _ _ _ _ _ _ _ _ _ _ _ _ _ _ _ _ _ _ _ _ _ _ _ _ _ _ _ _ _ _ _ _ _ _ _ _ _ _ _ _ _ _ _ _ _ _ _ _ _ _ _ _ _ _ _ _ _ _ _ _ _ _ _ _ _ _ _ _ _ _ _ _ _ _ _ _ _ _ _ ?_
          intro j154 j155 j156 j157 j158 j159 j160 j161 j162 j163 j164 j165 j166 j167 j168 j169 j170 j171 j172 j173 j174 j175 j176 j177 j178 j179 j180 j181 j182 j183 j184 j185 j186 j187 j188 j189 j190 j191 j192 j193 j194 j195 j196 j197 j198 j199 j200 j201 j202 j203 j204 j205 j206 j207 j208 j209 j210 j211 j212 j213 j214 j215 j216 j217 j218 j219 j220 j221 j222 j223 j224 j225 j226 j227 j228 j229 j230 j231 j232 j233 j234 j235 j236 j237 j238 W1 hC1
          have HC1 := Lib.hid hC1
          clear hC1 hW hlen hA p0 a1 a2 a3 a4 e1 e2 e3 e4 s1 lowc HLi HPi
          go_wp2
          go_roundw
          case rel => exact ⟨j + 1 + 1, by omega, by go_num, HC1⟩
          case measure => simp [intOf] <;> omega
        · obtain rfl : k = n + 1 := by omega
          have hZ : (A :: M ++ [Z])[n + 1]? = some Z := by
            rw [List.cons_append, List.getElem?_cons_succ, List.getElem?_append_right (by omega), hlen, Nat.sub_self]; rfl
          have p1 := HL.out.p _ _ hZ
          have hZs := HA.out _ _ hZ
          go_upto_region 25 with (fail)
          refine reps25b w0 _ P Qb g7 c7 g9 c9 n (n + 1) ln lm lc ld (by omega) hkl A Z (by omega) pc qc nc kc p0 p1 hW.out _ _ _ _ _ _ _ _ _ _ _ _ _ _ _ _ _ _ _ _ _ _ _ _ _ _ _ _ _ _ _ _ _ _ _ _ _ _ _ _ _ _ _ _ _ _ _ _ _ _ _ _ _ _ _ _ _ _ _ _ _ _ _ _ _ _ _ _ _ _ _ _ _ _ _ _ _ _ _ _ _ _ _ _ _ _ _ _ _ _ _ _ _ _ _ _ _ _ _ _ _ _ _ _ _ _ _ _ _ _ _ _ _ _ _ _ _ _ _ _ _ _ _ _ _ _ _ _ _ _ _ _ _ _ _ _ _ _ _ _ _ _ _ _ _ _ _ _ _ _ _ _ _ _ _ _ _ _ _ _ _ _ _ _ _ _ _ _ _ _ _ _ _ _ _ _ _ _ _ _ _ _ _ _ _ _ _ _ _ _ _ _ _ _ _ _ _ _ _ _ _ _ _ _ _ _ _ _ _ _ _ _ _ _ _ _ _ _ _ _ _ _ _ _ _ _ _ _ _ _ _ _ _ _ _ _ _ _ _ _ _ _ _ _ _ _ _ _ _ _ ?_
          intro j154 j155 j156 j157 j158 j159 j160 j161 j162 j163 j164 j165 j166 j167 j168 j169 j170 j171 j172 j173 j174 j175 j176 j177 j178 j179 j180 j181 j182 j183 j184 j185 j186 j187 j188 j189 j190 j191 j192 j193 j194 j195 j196 j197 j198 j199 j200 j201 j202 j203 j204 j205 j206 j207 j208 j209 j210 j211 j212 j213 j214 j215 j216 j217 j218 j219 j220 j221 j222 j223 j224 j225 j226 j227 j228 j229 j230 j231 j232 j233 j234 j235 j236 j237 j238 W1 hC1
          have HC1 := Lib.hid hC1
          clear hC1 hW hlen hA p0 p1 hZ hZs
          go_wp2
          go_roundw
          case rel => exact ⟨n + 1 + 1, by omega, by go_num, HC1⟩
          case measure => simp [intOf] <;> omega
    · obtain rfl : k = n + 2 := by omega
      have hq : ¬ (n : Int) + 2 < (n : Int) + 2 := by omega
      go_wp2
      exact H0.out _ _ _ _ _ _ _ _ _ _ _ _ _ _ _ _ _ _ _ _ _ _ _ _ _ _ _ _ _ _ _ _ _ _ _ _ _ _ _ _ _ _ _ _ _ _ _ _ _ _ _ _ _ _ _ _ _ _ _ _ _ _ _ _ _ _ _ _ _ _ _ _ _ _ _ _ _ _ _ _ _ _ _ _ _ _ _ _ _ _ _ _ _ _ _ hW.out
end Go.Proofs.YtajccjbigcdkbaaDoor
namespace Go.Proofs.YtajccjbigcdkbaaDoor
open Go.ChangeShapes Go.WideShapes Go.ChangeAt Go.RowKit
theorem own_block {W : World} {base : Nat} {e : TypeId} {s n : Nat} {v : Value} {xs : List Value} (h : W.ownsRow base e s v n xs) (hr : IsRowV v n) : ∃ g cap cur, v = .slice (some ⟨g, 0, none⟩) n cap ∧ base ≤ g ∧ W.heap[g]? = some (.cells cur e) ∧ ∀ (i : Nat) x, xs[i]? = some x → cur[i]? = some x := by
  obtain ⟨g0, cap0, rfl⟩ := hr
  rcases h.2 with ⟨hn, _⟩ | ⟨g, cap, cur, hv, hb, hg, _, _, _, ht⟩
  · cases hn
  · refine ⟨g, cap, cur, hv, hb, hg, fun i x hx => ?_⟩
    rw [← ht, List.getElem?_take] at hx
    split at hx
    · rw [← Array.getElem?_toList]; exact hx
    · cases hx
theorem nms_fit (wide n : Nat) (hn : n ≤ 9) (cs : List Co) (hl : cs.length = n) (hc : ∀ c ∈ cs, Low 65535 c) : Fit (nmsB wide n) cs := by
  refine ⟨by rw [nms_len, hl], by omega, fun x hx => ?_, hc⟩
  unfold nmsB at hx
  obtain ⟨k, hk, rfl⟩ := List.mem_map.1 hx
  have := List.mem_range.1 hk
  exact nm_fit (by omega) (Nat.mod_lt _ (by decide))
theorem start_lists (w w1 : World) (hb : Below w.heap.size w w1) (wide : Nat) (cs : List Co) :
    L4 w wide 0 cs (.slice (some ⟨w1.heap.size, 0, none⟩) 0 0) (.slice (some ⟨w1.heap.size + 1, 0, none⟩) 0 0) (.slice (some ⟨w1.heap.size + 1 + 1, 0, none⟩) 0 0) (.slice (some ⟨w1.heap.size + 1 + 1 + 1, 0, none⟩) 0 0)
      ((((w1.alloc (.cells #[] 9)).alloc (.cells #[] 9)).alloc (.cells #[] 26)).alloc (.cells #[] 26)) := by
  have hbig := hb.size
  have k1 : (w1.alloc (.cells #[] 9)).heap.size = w1.heap.size + 1 := World.size_alloc _ _
  have k2 : ((w1.alloc (.cells #[] 9)).alloc (.cells #[] 9)).heap.size = w1.heap.size + 1 + 1 := by rw [World.size_alloc, k1]
  have k3 : (((w1.alloc (.cells #[] 9)).alloc (.cells #[] 9)).alloc (.cells #[] 26)).heap.size = w1.heap.size + 1 + 1 + 1 := by rw [World.size_alloc, k2]
  have g : ∀ (v : World) (o : Obj), Below v.heap.size v (v.alloc o) := fun v o => (Below.refl _ v).alloc (Nat.le_refl _) o
  refine ⟨⟨?_, ?_, ?_, ?_, ?_, ?_, ⟨_, _, rfl⟩, ⟨_, _, rfl⟩, by simp [Value.ownBlock], by simp [Value.ownBlock]⟩, ⟨_, _, rfl⟩, ⟨_, _, rfl⟩⟩
  · exact (((hb.alloc (by omega) _).alloc (by rw [k1]; omega) _).alloc (by rw [k2]; omega) _).alloc (by rw [k3]; omega) _
  · rw [World.size_alloc, k3]; omega
  · exact own_below (own_below (own_below (World.ownsRow_made w1 #[] 0 (by omega) (by decide) rfl) (g _ _)) (g _ _)) (g _ _)
  · have := World.ownsRow_made (w1.alloc (.cells #[] 9)) #[] 0 (e := 9) (size := 1) (base := w.heap.size) (by rw [k1]; omega) (by decide) rfl
    rw [k1] at this
    exact own_below (own_below this (g _ _)) (g _ _)
  · have := World.ownsRow_made ((w1.alloc (.cells #[] 9)).alloc (.cells #[] 9)) #[] 0 (e := 26) (size := 4) (base := w.heap.size) (by rw [k2]; omega) (by decide) rfl
    rw [k2] at this
    exact own_below this (g _ _)
  · have := World.ownsRow_made (((w1.alloc (.cells #[] 9)).alloc (.cells #[] 9)).alloc (.cells #[] 26)) #[] 0 (e := 26) (size := 4) (base := w.heap.size) (by rw [k3]; omega) (by decide) rfl
    rw [k3] at this
    exact this
theorem bks_at {W : World} {bs : List (Nat × Obj)} (h : ∀ q ∈ bs, W.heap[q.1]? = some q.2) : Mild.Bks W.heap.size W bs W := ⟨Below.refl _ _, Nat.le_refl _, h⟩
/-- What a world with the four lists and both reports' lines gives the second loop. -/
theorem lns_of {n : Nat} {names : List ByteArray} {cs : List Co} (hf : Fit names cs) (hl : cs.length = n) {A Z : ByteArray} {M : List ByteArray} (e1 : linesM names cs = A :: M ++ [Z]) (e3 : M.length = cs.length)
    (hm : ∀ (i : Nat) l, M[i]? = some l → ∃ x c, names[i]? = some x ∧ cs[i]? = some c ∧ (∃ rest, l.data.toList = x.data.toList ++ 32 :: rest) ∧ ∃ pre, l.data.toList = pre ++ 32 :: (dig c.d).data.toList) (hz : ∃ pre, Z.data.toList = pre ++ 32 :: (dig (sumM cs).d).data.toList)
    {pc qc nc kc : Array Value} (hp : ∀ (i : Nat) x, ((A :: M ++ [Z]).map Value.string)[i]? = some x → pc[i]? = some x) (hq : ∀ (i : Nat) x, ((A :: M.reverse ++ [Z]).map Value.string)[i]? = some x → qc[i]? = some x)
    (hn : ∀ (i : Nat) x, (names.map Value.string)[i]? = some x → nc[i]? = some x) (hk : ∀ (i : Nat) x, (cs.flatMap cells4)[i]? = some x → kc[i]? = some x) : Lns n names cs A Z M pc qc nc kc :=
  { fit := hf, len := hl, few := by have := hf.few; omega, mlen := by omega, lines := e1, mid := hm, fin := hz
    p := fun i X h => hp i _ (by rw [List.getElem?_map, h]; rfl), q := fun i X h => hq i _ (by rw [List.getElem?_map, h]; rfl), nn := fun i X h => hn i _ (by rw [List.getElem?_map, h]; rfl)
    kk := fun j c h => by
      obtain ⟨hj, e⟩ := List.getElem?_eq_some_iff.1 h
      have := (flat4_get cs j hj).2.2.2
      rw [e] at this
      exact hk _ _ this }
theorem rep_size {names : List ByteArray} {cs : List Co} (h : Fit names cs) : (reportT names cs).size < 4294967281 := by
  obtain ⟨z, hz, hall⟩ := lines_size h
  have h1 := flat_bound z _ hall
  rw [lines_len h, ← rep_data h, size_list] at h1
  have hf := h.few
  have : (cs.length + 2) * (z + 1) ≤ 11 * 5009 := Nat.mul_le_mul (by omega) (by omega)
  omega
end Go.Proofs.YtajccjbigcdkbaaDoor
namespace Go.Proofs.YtajccjbigcdkbaaDoor
open Go.ChangeShapes Go.WideShapes Go.ChangeAt Go.RowKit
theorem own_cells {W : World} {base g cap : Nat} {e : TypeId} {s n : Nat} {xs : List Value} (h : W.ownsRow base e s (.slice (some ⟨g, 0, none⟩) n cap) n xs) : ∃ cur, g < W.heap.size ∧ W.heap[g]? = some (.cells cur e) ∧ ∀ (i : Nat) x, xs[i]? = some x → cur[i]? = some x := by
  have hg := (h.lt g rfl).2
  obtain ⟨g', cap', cur, hv, -, h1, h2⟩ := own_block h ⟨g, cap, rfl⟩
  cases hv
  exact ⟨cur, hg, h1, h2⟩
theorem fin_at (A Z : ByteArray) (M : List ByteArray) : ((A :: M ++ [Z]).map Value.string)[M.length + 1]? = some (.string Z) := by
  rw [List.getElem?_map, List.cons_append, List.getElem?_cons_succ, List.getElem?_append_right (Nat.le_refl _), Nat.sub_self]; rfl

set_option maxRecDepth 100000 in
set_option maxHeartbeats 8000000 in
theorem reps_walk (an : Option Addr) (xl xc wide : Nat) (cs : List Co) (hl : cs.length = xl) (hw : wide < 256) (w : World) (ht : Tabs w) (hX : ∀ (k : Nat) c, cs[k]? = some c → ∃ xb xo, an = some ⟨xb, xo, none⟩ ∧ X4 w xb xo k c) :
    Calls Tryd.prog 5 #[.slice an xl xc, .int .u8 wide] w fun e w' => e = .returned (.bool true) ∧ Below w.heap.size w w' := by
  have HT := Lib.hid ht; clear ht
  have HX := Lib.hid hX; clear hX
  obtain ⟨n, hn⟩ : ∃ n : Nat, min (xl : Int) 9 = (n : Int) := ⟨min xl 9, by omega⟩
  have hn9 : n ≤ 9 := by omega
  have hnx : n ≤ xl := by omega
  go_enter Tryd.func5, Tryd.ntmps5
  go_upto_block 0 with (go_at_call 6; refine (examples_any _ (HT.out.below (by (repeat' (first | (with_reducible exact Below.refl _ _) | (with_reducible assumption) | (with_reducible refine Below.alloc ?_ ?_ _) | (with_reducible refine Below.drew ?_) | (with_reducible refine bdn ?_ _) | (with_reducible refine Below.setCell ?_ ?_ _) | go_size))))).mono ?_; rintro e w1 ⟨rfl, hb⟩)
  have hcl : (cs.take n).length = n := by rw [List.length_take]; omega
  have hX2 : ∀ (k : Nat) c, (cs.take n)[k]? = some c → ∃ xb xo, an = some ⟨xb, xo, none⟩ ∧ X4 w xb xo k c := fun k c h => HX.out k c (by
    rw [List.getElem?_take] at h
    split at h
    · exact h
    · cases h)
  have hLow : ∀ c ∈ cs.take n, Low 65535 c := fun c hc => by
    obtain ⟨k, hk⟩ := List.mem_iff_getElem?.1 hc
    obtain ⟨xb, xo, _, h4⟩ := hX2 k c hk
    exact h4.low
  have hF := nms_fit wide n hn9 (cs.take n) hcl hLow
  have hL0 := start_lists w w1 hb wide (cs.take n)
  refine reps_lists w _ n xl xc wide an (cs.take n) hcl hn9 hnx hw hX2 _ _ _ _ hL0 _ _ _ _ _ _ _ _ _ _ _ _ _ _ _ _ _ _ _ _ _ _ _ _ _ _ _ _ _ _ _ _ _ _ _ _ _ _ _ _ _ _ _ _ _ _ _ _ _ _ _ _ _ _ _ _ _ _ _ _ _ _ _ _ _ _ _ _ _ _ _ _ _ _ _ _ _ _ _ _ _ _ _ _ _ _ _ _ _ _ _ _ _ _ _ _ _ _ _ _ _ _ _ _ _ _ _ _ _ _ _ _ _ _ _ _ _ _ _ _ _ _ _ _ _ _ _ _ _ _ _ _ _ _ _ _ _ _ _ _ _ _ _ _ _ _ _ _ _ _ _ _ _ _ _ _ _ _ _ _ _ _ _ _ _ _ _ _ _ _ _ _ _ _ _ _ _ _ _ _ _ _ _ _ _ _ _ _ _ _ _ _ _ _ _ _ _ _ _ _ _ _ _ _ _ _ _ _ _ _ _ _ _ _ _ _ _ _ _ _ _ _ _ _ _ _ _ _ _ _ _ _ _ _ _ _ _ _ _ _ _ _ _ _ _ _ _ ?_
  intro u7 u8 u9 u10 j12 j13 j14 j30 j31 j32 j33 j34 j35 j36 j37 j38 j39 j40 j41 j42 j43 j44 j45 j46 j47 j48 j49 j50 j51 j52 j53 j54 j55 j56 j57 j58 j59 j60 j61 j62 j63 j64 j65 j66 j67 j68 j69 j70 j71 j72 j73 j74 j75 j76 j77 j78 j79 j80 j81 j82 j83 j84 j85 j86 j87 j88 j89 j90 j91 W1 hC1
  clear hX2 hLow HX hL0 hb
  generalize cs.take n = ds at *
  have ht : ds.take n = ds := by rw [← hcl]; exact List.take_length
  have HC1 := hC1.lc
  rw [ht] at HC1
  obtain ⟨g7, c7, rfl⟩ := hC1.r7
  obtain ⟨g9, c9, rfl⟩ := hC1.r9
  have r8 := HC1.r8
  have r10 := HC1.r10
  rw [List.length_reverse, nms_len] at r8
  rw [List.length_reverse, hcl] at r10
  obtain ⟨g8, c8, rfl⟩ := r8
  obtain ⟨g10, c10, rfl⟩ := r10
  clear hC1 ht
  have HC := Lib.hid HC1; clear HC1
  have HF := Lib.hid hF; clear hF
  have HL := Lib.hid hcl; clear hcl
  have hS := HF.out.sum.d
  generalize hSd : (sumM ds).d = S at *
  have HS := Lib.hid (And.intro hSd hS)
  clear hSd hS
  go_upto_region 18 with (fail)
  refine reps18 w _ HT.out n g7 c7 g8 c8 g9 c9 g10 c10 (nmsB wide n) (nmsB wide n).reverse ds ds.reverse _ _ (Lib.hid ⟨rfl, HF.out.told.2, nms_len _ _, HL.out⟩) (Lib.hid ⟨rfl, HF.out.reverse.told.2, by rw [List.length_reverse, nms_len], by rw [List.length_reverse, HL.out]⟩) HC.out _ _ _ _ _ _ _ _ _ _ _ _ _ _ _ _ _ _ _ _ _ _ _ _ _ _ _ _ _ _ _ _ _ _ _ _ _ _ _ _ _ _ _ _ _ _ _ _ _ _ _ _ _ _ _ _ _ _ _ _ _ _ _ _ _ _ _ _ _ _ _ _ _ _ _ _ _ _ _ _ _ _ _ _ _ _ _ _ _ _ _ _ _ _ _ _ _ _ _ _ _ _ _ _ _ _ _ _ _ _ _ _ _ _ _ _ _ _ _ _ _ _ _ _ _ _ _ _ _ _ _ _ _ _ _ _ _ _ _ _ _ _ _ _ _ _ _ _ _ _ _ _ _ _ _ _ _ _ _ _ _ _ _ _ _ _ _ _ _ _ _ _ _ _ _ _ _ _ _ _ _ _ _ _ _ _ _ _ _ _ _ _ _ _ _ _ _ _ _ _ _ _ _ _ _ _ _ _ _ _ _ _ _ _ _ _ _ _ _ _ _ _ _ _ _ _ _ _ _ _ _ _ _ _ _ _ _ _ _ _ _ _ _ _ _ _ _ _ _ _ _ _ ?_
  intro R T j92 j93 j94 j95 j96 j97 W2 hb2 hR hT2
  have hW2 := (HT.out.below HC.out.below).below hb2
  have hnm := own_below HC.out.nm hb2
  have hli := own_below HC.out.li hb2
  have hbel := HC.out.below.trans (hb2.mono HC.out.big)
  have hbig := Nat.le_trans HC.out.big hb2.size
  rw [nms_len] at hnm
  rw [HL.out] at hli
  obtain ⟨nc, n1, n2, n3⟩ := own_cells hnm
  obtain ⟨kc, k1, k2, k3⟩ := own_cells hli
  clear hnm hli hb2 HC HT
  have HB := Lib.hid (And.intro hbel hbig)
  have HT := Lib.hid hW2
  have HN := Lib.hid (And.intro n1 (And.intro n2 (And.intro n3 (And.intro k1 (And.intro k2 k3)))))
  clear hbel hbig hW2 n1 n2 n3 k1 k2 k3
  obtain ⟨A, M, Z, e1, e2, e3, e4, e5⟩ := lines_turn HF.out
  have HE := Lib.hid (And.intro e1 (And.intro e2 (And.intro e3 (And.intro e4 e5))))
  clear e1 e2 e3 e4 e5
  have hR2 : Mild.Bks W2.heap.size W2 [(R, .cells #[.string (reportT (nmsB wide n) ds), .int .i64 0] 47), (T, .cells #[.string (reportT (nmsB wide n).reverse ds.reverse), .int .i64 0] 47)] W2 := by
    refine bks_at ?_
    simp only [List.forall_mem_cons, List.not_mem_nil, false_imp_iff, implies_true, and_true]
    exact ⟨hR, hT2⟩
  clear hR hT2
  go_upto_region 19 with (fail)
  refine reps19 W2 _ R T _ _ _ _ (rep_size HF.out) (rep_size HF.out.reverse) (rep_data HF.out) (rep_data HF.out.reverse) (lines_no HF.out) (lines_no HF.out.reverse) hR2 _ _ _ _ _ _ _ _ _ _ _ _ _ _ _ _ _ _ _ _ _ _ _ _ _ _ _ _ _ _ _ _ _ _ _ _ _ _ _ _ _ _ _ _ _ _ _ _ _ _ _ _ _ _ _ _ _ _ _ _ _ _ _ _ _ _ _ _ _ _ _ _ _ _ _ _ _ _ _ _ _ _ _ _ _ _ _ _ _ _ _ _ _ _ _ _ _ _ _ _ _ _ _ _ _ _ _ _ _ _ _ _ _ _ _ _ _ _ _ _ _ _ _ _ _ _ _ _ _ _ _ _ _ _ _ _ _ _ _ _ _ _ _ _ _ _ _ _ _ _ _ _ _ _ _ _ _ _ _ _ _ _ _ _ _ _ _ _ _ _ _ _ _ _ _ _ _ _ _ _ _ _ _ _ _ _ _ _ _ _ _ _ _ _ _ _ _ _ _ _ _ _ _ _ _ _ _ _ _ _ _ _ _ _ _ _ _ _ _ _ _ _ _ _ _ _ _ _ _ _ _ _ _ _ _ _ _ _ _ _ _ _ _ _ _ _ _ _ _ _ _ _ _ _ ?_
  clear hR2
  intro u17 u18 j98 j99 j100 j101 j102 j103 W3 hC3 hp hq
  have hl1 : (linesM (nmsB wide n) ds).length = n + 2 := by rw [lines_len HF.out, HL.out]
  have hl2 : (linesM (nmsB wide n).reverse ds.reverse).length = n + 2 := by rw [lines_len HF.out.reverse, List.length_reverse, HL.out]
  rw [hl1, HE.out.1] at hp
  rw [hl2, HE.out.2.1] at hq
  clear hl1 hl2
  obtain ⟨P, lc, pc, rfl, -, p1, p2⟩ := own_block hp (own_row hp (by omega))
  obtain ⟨Qb, ld, qc, rfl, -, q1, q2⟩ := own_block hq (own_row hq (by omega))
  clear hp hq
  have hML : M.length = n := by rw [HE.out.2.2.1, HL.out]
  have hC4 : Mild.Bks W2.heap.size W2 [(R, .cells #[.string (reportT (nmsB wide n) ds), .int .i64 0] 47), (T, .cells #[.string (reportT (nmsB wide n).reverse ds.reverse), .int .i64 0] 47), (P, .cells pc 9), (Qb, .cells qc 9)] W3 := by
    have hb := hC3.blocks
    simp only [List.forall_mem_cons, List.not_mem_nil, false_imp_iff, implies_true, and_true] at hb
    refine ⟨hC3.below, hC3.big, ?_⟩
    simp only [List.forall_mem_cons, List.not_mem_nil, false_imp_iff, implies_true, and_true]
    exact ⟨hb.1, hb.2, p1, q1⟩
  clear hC3 p1 q1
  have HPQ := Lib.hid (And.intro p2 q2)
  clear p2 q2
  have f1 : pc[n + 1]? = some (.string Z) := HPQ.out.1 _ _ (by rw [← hML]; exact fin_at A Z M)
  have f2 : qc[n + 1]? = some (.string Z) := HPQ.out.2 _ _ (by have := fin_at A Z M.reverse; rw [List.length_reverse, hML] at this; exact this)
  have HF1 := Lib.hid f1
  go_upto_region 20 with (fail)
  refine reps20 W2 _ R T P Qb n (n + 2) (n + 2) lc ld hn9 rfl rfl _ _ A Z pc qc (HPQ.out.1 0 _ rfl) (HPQ.out.2 0 _ rfl) f1 f2 hC4 _ _ _ _ _ _ _ _ _ _ _ _ _ _ _ _ _ _ _ _ _ _ _ _ _ _ _ _ _ _ _ _ _ _ _ _ _ _ _ _ _ _ _ _ _ _ _ _ _ _ _ _ _ _ _ _ _ _ _ _ _ _ _ _ _ _ _ _ _ _ _ _ _ _ _ _ _ _ _ _ _ _ _ _ _ _ _ _ _ _ _ _ _ _ _ _ _ _ _ _ _ _ _ _ _ _ _ _ _ _ _ _ _ _ _ _ _ _ _ _ _ _ _ _ _ _ _ _ _ _ _ _ _ _ _ _ _ _ _ _ _ _ _ _ _ _ _ _ _ _ _ _ _ _ _ _ _ _ _ _ _ _ _ _ _ _ _ _ _ _ _ _ _ _ _ _ _ _ _ _ _ _ _ _ _ _ _ _ _ _ _ _ _ _ _ _ _ _ _ _ _ _ _ _ _ _ _ _ _ _ _ _ _ _ _ _ _ _ _ _ _ _ _ _ _ _ _ _ _ _ _ _ _ _ _ _ _ _ _ _ _ _ _ _ _ _ _ _ _ _ _ ?_
  clear f1 f2 hC4
  intro j104 j105 j106 j107 j108 j109 j110 j111 j112 j113 j114 j115 j116 j117 j118 j119 j120 j121 j122 j123 j124 j125 j126 j127 j128 j129 j130 j131 j132 j133 j134 j135 j136 j137 j138 j139 j140 j141 j142 j143 j144 j145 j146 W4 hC5
  have HC5 := Lib.hid hC5; clear hC5
  have hC6 : Mild.Bks W4.heap.size W4 [(P, .cells pc 9), (Qb, .cells qc 9), (g7, .cells nc 9), (g9, .cells kc 26)] W4 := by
    have hb := HC5.out.blocks
    simp only [List.forall_mem_cons, List.not_mem_nil, false_imp_iff, implies_true, and_true] at hb
    refine bks_at ?_
    simp only [List.forall_mem_cons, List.not_mem_nil, false_imp_iff, implies_true, and_true]
    exact ⟨hb.2.2.1, hb.2.2.2, (HC5.out.below.block _ HN.out.1).trans HN.out.2.1, (HC5.out.below.block _ HN.out.2.2.2.1).trans HN.out.2.2.2.2.1⟩
  have hLn := lns_of HF.out HL.out HE.out.1 HE.out.2.2.1 HE.out.2.2.2.1 HE.out.2.2.2.2 HPQ.out.1 HPQ.out.2 HN.out.2.2.1 HN.out.2.2.2.2.2
  have hT4 := HT.out.below HC5.out.below
  have hB4 := HB.out.1.trans (HC5.out.below.mono HB.out.2)
  have hG4 := Nat.le_trans HB.out.2 HC5.out.below.size
  have HB4 := Lib.hid (And.intro hB4 hG4)
  clear hB4 hG4
  have HZ := Lib.hid HE.out.2.2.2.2
  clear HN HB HT HC5 HE HPQ
  go_upto_block 2 with (fail)
  refine reps_loop2 W4 _ hT4 P Qb g7 c7 g9 c9 n (n + 2) (n + 2) lc ld rfl rfl (nmsB wide n) ds A Z M pc qc nc kc hLn hC6 _ _ _ _ _ _ _ _ _ _ _ _ _ _ _ _ _ _ _ _ _ _ _ _ _ _ _ _ _ _ _ _ _ _ _ _ _ _ _ _ _ _ _ _ _ _ _ _ _ _ _ _ _ _ _ _ _ _ _ _ _ _ _ _ _ _ _ _ _ _ _ _ _ _ _ _ _ _ _ _ _ _ _ _ _ _ _ _ _ _ _ _ _ _ _ _ _ _ _ _ _ _ _ _ _ _ _ _ _ _ _ _ _ _ _ _ _ _ _ _ _ _ _ _ _ _ _ _ _ _ _ _ _ _ _ _ _ _ _ _ _ _ _ _ _ _ _ _ _ _ _ _ _ _ _ _ _ _ _ _ _ _ _ _ _ _ _ _ _ _ _ _ _ _ _ _ _ _ _ _ _ _ _ _ _ _ _ _ _ _ _ _ _ _ _ _ _ _ _ _ _ _ _ _ _ _ _ _ _ _ _ _ _ _ _ _ _ _ _ _ _ _ _ _ _ _ _ _ _ _ _ _ _ _ _ _ _ _ _ _ _ _ _ _ _ _ _ _ _ _ ?_
  clear hC6
  have hZs : Z.size ≤ 5008 := by
    obtain ⟨z, hz, hall⟩ := hLn.size
    rw [hall (n + 1) Z (by rw [← hML, List.cons_append, List.getElem?_cons_succ, List.getElem?_append_right (Nat.le_refl _), Nat.sub_self]; rfl)]; exact hz
  obtain ⟨pre, hpre⟩ := HZ.out
  rw [HS.out.1] at hpre
  have hss := suf_size hpre
  have HLi := Lib.hid (dig_is HS.out.2.1 hpre (by omega))
  have HPi := Lib.hid (pars_is HS.out.2.1 HS.out.2.2 (by omega))
  have HT4 := Lib.hid hT4
  clear hT4 hLn hpre HZ
  intro j4 j19 j148 j149 j150 j151 j152 j153 j154 j155 j156 j157 j158 j159 j160 j161 j162 j163 j164 j165 j166 j167 j168 j169 j170 j171 j172 j173 j174 j175 j176 j177 j178 j179 j180 j181 j182 j183 j184 j185 j186 j187 j188 j189 j190 j191 j192 j193 j194 j195 j196 j197 j198 j199 j200 j201 j202 j203 j204 j205 j206 j207 j208 j209 j210 j211 j212 j213 j214 j215 j216 j217 j218 j219 j220 j221 j222 j223 j224 j225 j226 j227 j228 j229 j230 j231 j232 j233 j234 j235 j236 j237 j238 j239 W5 hC7
  have hb := hC7.blocks
  simp only [List.forall_mem_cons, List.not_mem_nil, false_imp_iff, implies_true, and_true] at hb
  have d1 := (Mild.cell_of_block hb.1 (n + 1)).trans HF1.out
  have HC7 := Lib.hid hC7
  clear hC7 hb HF1
  have hf1 := field38c 0 0 0 S 0
  have hf2 := field26d 0 0 0 S
  have hz5 : ¬ 9223372036854775807 < 37 + (dig S).size := by omega
  go_wp2_with (first | (go_at_call 16; refine (HLi.out _).mono ?_; rintro e w2 ⟨rfl, hb2⟩; have HB2 := Lib.hid hb2; clear hb2) | (go_at_call 13; refine (HPi.out _ (HT4.out.below (HC7.out.below.trans (HB2.out.mono HC7.out.big)))).mono ?_; rintro e w3 ⟨rfl, hb3⟩))
  exact bodyPost_ret (v := .bool true) (by simp [results, Tryd.results5, go_sem, *]) rfl ⟨rfl, HB4.out.1.trans ((HC7.out.below.trans ((HB2.out.trans (hb3.mono HB2.out.size)).mono HC7.out.big)).mono HB4.out.2)⟩
end Go.Proofs.YtajccjbigcdkbaaDoor
