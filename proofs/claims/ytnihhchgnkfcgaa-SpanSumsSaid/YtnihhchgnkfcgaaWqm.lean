/- The walk of SpanSums. -/
import Derived.Test.YtnihhchgnkfcgaaWqc
-- USEBDN
set_option linter.unusedSimpArgs false
set_option linter.unusedVariables false
namespace Go.Proofs.Ytnihhchgnkfcgaa
open Go.ChangeShapes Go.WideShapes Go.ChangeAt Go.RowKit
theorem small_mul {r s : Sp} (hr : Vld r) (hs : Vld s) (a1 : -40 ≤ r.lo) (a2 : r.hi ≤ 166) (b1 : -40 ≤ s.lo) (b2 : s.hi ≤ 166) : (mulM r s).e = 0 := by
  have key : ∀ x y : Int, -40 ≤ x → x ≤ 166 → -40 ≤ y → y ≤ 166 → -1099511627776 ≤ x * y ∧ x * y ≤ 1099511627776 := by
    intro x y h1 h2 h3 h4
    have h5 := Int.natAbs_mul x y
    have h6 : x.natAbs * y.natAbs ≤ 166 * 166 := Nat.mul_le_mul (by omega) (by omega)
    omega
  have r1 := hr.le; have s1 := hs.le
  have h : fits4 r s = true := (fits4_iff r s).2 ⟨key _ _ (by omega) (by omega) (by omega) (by omega), key _ _ (by omega) (by omega) (by omega) (by omega), key _ _ (by omega) (by omega) (by omega) (by omega), key _ _ (by omega) (by omega) (by omega) (by omega)⟩
  unfold mulM
  rw [if_pos h]
set_option maxRecDepth 100000 in
set_option maxHeartbeats 8000000 in
theorem sums_any (xa xb xc ya yb yc n0 n1 n2 : Int) (w : World) (hx : RawB xa xb xc) (hy : RawB ya yb yc) (h00 : 0 ≤ n0) (h01 : n0 ≤ 65535) (h10 : 0 ≤ n1) (h11 : n1 ≤ 65535) (h20 : 0 ≤ n2) (h21 : n2 ≤ 65535) :
    Calls Try.prog 8 #[rawv xa xb xc, rawv ya yb yc, .agg #[.int .u16 n0, .int .u16 n1, .int .u16 n2]] w fun e w' => e = .returned (.bool true) ∧ Below w.heap.size w w' := by
  go_enter Try.func8, Try.ntmps8
  go_wp2_with (first | (go_at_call 10; refine (examples_any _).mono ?_; rintro e w1 ⟨rfl, hb⟩; obtain ⟨hc, hf⟩ := bcell hb; have hz := hb.size; (try simp at hz); have z0 : w.heap.size < w1.heap.size := (by omega); have c0 := fun o => hc (w.heap.size) o (by go_size); have f0 := fun o => hf (w.heap.size) o (by go_size); have z1 : w.heap.size + 1 < w1.heap.size := (by omega); have c1 := fun o => hc (w.heap.size + 1) o (by go_size); have f1 := fun o => hf (w.heap.size + 1) o (by go_size); have z2 : w.heap.size + 2 < w1.heap.size := (by omega); have c2 := fun o => hc (w.heap.size + 2) o (by go_size); have f2 := fun o => hf (w.heap.size + 2) o (by go_size); clear hc hf; have hB := bup (B := w.heap.size) (w := w) (by (repeat' (first | (with_reducible exact Below.refl _ _) | (with_reducible assumption) | (with_reducible refine Below.alloc ?_ ?_ _) | (with_reducible refine Below.drew ?_) | (with_reducible refine bdn ?_ _) | (with_reducible refine Below.setCell ?_ ?_ _) | go_size))) hb (by go_size); clear hb))
  refine Mild.region_mild 10 [] (Mild.Cls w.heap.size w [(⟨w.heap.size, 0, none⟩, .int .i64 xa), (⟨w.heap.size, 1, none⟩, .int .u32 xb), (⟨w.heap.size, 2, none⟩, .int .u16 xc), (⟨w.heap.size + 1, 0, none⟩, .int .i64 ya), (⟨w.heap.size + 1, 1, none⟩, .int .u32 yb), (⟨w.heap.size + 1, 2, none⟩, .int .u16 yc), (⟨w.heap.size + 2, 0, none⟩, .int .u16 n0), (⟨w.heap.size + 2, 1, none⟩, .int .u16 n1), (⟨w.heap.size + 2, 2, none⟩, .int .u16 n2)]) (by kernel_rfl) 205 (by kernel_rfl) rfl (by simp) Mild.Cls.closed ?h0 (by simp) ?H
  case h0 => exact ⟨by (repeat' (first | (with_reducible exact Below.refl _ _) | (with_reducible assumption) | (with_reducible refine Below.alloc ?_ ?_ _) | (with_reducible refine Below.drew ?_) | (with_reducible refine bdn ?_ _) | (with_reducible refine Below.setCell ?_ ?_ _) | go_size)), by omega, by simp [*, go_sem]⟩
  apply Exists.intro
  refine ⟨?HW, ?HT⟩
  case HW =>
    intro W hW
    have hWc := hW.cells; simp only [List.forall_mem_cons, List.not_mem_nil, false_imp_iff, implies_true, and_true] at hWc; obtain ⟨g0, g1, g2, g3, g4, g5, g6, g7, g8⟩ := hWc
    clear hW
    simp only [List.take_succ_cons, List.take_zero]
    repeat (apply Mild.walkM_q rfl; (go_wp2_with (first | (go_at_call 17; (with_reducible refine (span_any xa xb xc _ hx.a1 hx.a2 hx.b1 hx.b2 hx.c1 hx.c2).mono ?_); rintro e w1 ⟨rfl, hb⟩) | (go_at_call 17; (with_reducible refine (span_any ya yb yc _ hy.a1 hy.a2 hy.b1 hy.b2 hy.c1 hy.c2).mono ?_); rintro e w1 ⟨rfl, hb⟩) | (go_at_call 11; (with_reducible refine (small_any xa xb xc _ hx.a1 hx.a2 hx.b1 hx.b2 hx.c1 hx.c2).mono ?_); rintro e w1 ⟨rfl, hb⟩) | (go_at_call 11; (with_reducible refine (small_any ya yb yc _ hy.a1 hy.a2 hy.b1 hy.b2 hy.c1 hy.c2).mono ?_); rintro e w1 ⟨rfl, hb⟩))); (first | refine ⟨rfl, rfl, Below.refl _ _, ?_⟩ | refine ⟨rfl, rfl, hb, ?_⟩))
    exact Mild.walkM_end rfl
  case HT =>
    intro F w2 hC u1 u2
    clear u1 u2
    simp only [List.drop_succ_cons, List.drop_zero, Mild.putAll, List.foldl_cons, List.foldl_nil, Mild.ptrTo, Act.put, List.setIfInBounds_toArray, List.set_cons_zero, List.set_cons_succ]
    clear F
    have hB2 : Below w.heap.size w w2 := hC.below
    have b2 := hC.big
    have hWc := hC.cells; simp only [List.forall_mem_cons, List.not_mem_nil, false_imp_iff, implies_true, and_true] at hWc; obtain ⟨g0, g1, g2, g3, g4, g5, g6, g7, g8⟩ := hWc
    clear hC hB g0 g1 g2 g3 g4 g5 c0 f0 c1 f1 z0 z1 z2 c2 f2 hz w1
    have lN := World.block_lt_of_cell? _ _ g6
    dsimp only at lN
    have hp := span_vld xa xb xc
    have hq := span_vld ya yb yc
    have bp := span_bd xa xb xc
    have bq := span_bd ya yb yc
    have hr := small_vld xa xb xc
    have hs := small_vld ya yb yc
    have br := small_bd xa xb xc
    have bs := small_bd ya yb yc
    generalize spanM xa xb xc = p at *
    generalize spanM ya yb yc = q at *
    generalize smallM xa xb xc = r at *
    generalize smallM ya yb yc = s at *
    go_wp2_with fail
    have HC : Hid (SL w w2.heap.size (w.heap.size + 2) p q r s n0 n1 n2 (w2.alloc (.cells #[.int .i64 p.lo, .int .i64 p.hi, .int .i64 p.st, .int .i64 q.lo, .int .i64 q.hi, .int .i64 q.st, .int .i64 r.lo, .int .i64 r.hi, .int .i64 r.st, .int .i64 s.lo, .int .i64 s.hi, .int .i64 s.st] 57))) := Lib.hid ⟨by (repeat' (first | (with_reducible exact Below.refl _ _) | (with_reducible assumption) | (with_reducible refine Below.alloc ?_ ?_ _) | (with_reducible refine Below.drew ?_) | (with_reducible refine bdn ?_ _) | (with_reducible refine Below.setCell ?_ ?_ _) | go_size)), by simp; omega, (by (simp only [List.forall_mem_cons, List.not_mem_nil, false_imp_iff, implies_true, and_true]); simp [*, go_sem])⟩
    generalize w2.alloc _ = w3 at *
    generalize w2.heap.size = L at *
    clear g6 g7 g8 lN hB2 b2 w2
    have lp := hp.le; have lq := hq.le; have lr := hr.le; have ls := hs.le
    go_loopw [9, 10, 11, 12, 13, 14, 15, 16, 17, 18, 19] (fun i _ _ _ _ _ _ _ _ _ _ wr => ∃ j : Nat, j ≤ 2 ∧ i = .int .i64 j ∧ Hid (SL w L (w.heap.size + 2) p q r s n0 n1 n2 wr)) (fun i _ _ _ _ _ _ _ _ _ _ _ => 2 - (intOf i).toNat)
    case atStart => exact ⟨0, by omega, rfl, HC⟩
    case round =>
      clear HC w3
      obtain ⟨j, hj, rfl, HC⟩ := hrel
      by_cases hlt : j < 2
      · have hj2 : j = 0 ∨ j = 1 := by omega
        rcases hj2 with rfl | rfl
        · go_wp2_with fail
          rename_i K0 hK0 K1 hK1
          have HK : ∀ a w, Met (Code.wp Try.prog sumsRest _) a w → K1 a w := fun a w h => hK1 a w h
          clear hK1
          refine Mild2.region_mild 18 [⟨14, 10, zobj⟩, ⟨15, 11, zobj⟩] [⟨16, 14, 10, 4, 42, .cells #[.int .i64 p.lo, .int .i64 p.hi, .int .i64 p.st] 28⟩, ⟨17, 15, 11, 9, 47, .cells #[.int .i64 q.lo, .int .i64 q.hi, .int .i64 q.st] 28⟩] (SL w L (w.heap.size + 2) p q r s n0 n1 n2) (by kernel_rfl) 205 (by kernel_rfl) rfl (by simp) (by simp) (by simp) Mild.Cls.closed (cls_touch (cls_blocks HC.out) HC.out.big) HC.out ?M8a ?H8a
          case M8a => simp; exact ⟨mk28 _ _ _ _ _, mk28 _ _ _ _ _⟩
          apply Exists.intro
          refine ⟨?HW8a, ?HS8a, ?HT8a⟩
          case HW8a =>
            intro W hW
            have hWc := hW.cells; simp only [List.forall_mem_cons, List.not_mem_nil, false_imp_iff, implies_true, and_true] at hWc; obtain ⟨g0, g1, g2, g3, g4, g5, g6, g7, g8, g9, g10, g11, g12, g13, g14⟩ := hWc
            clear hW
            simp only [List.take_succ_cons, List.take_zero]
            repeat (apply walkM2_q rfl; (go_wp2_with fail); (first | refine ⟨rfl, rfl, Below.refl _ _, ?_⟩ | refine ⟨rfl, rfl, hb, ?_⟩))
            repeat apply walkM2_m rfl
            exact walkM2_end rfl
          case HS8a =>
            intro st hst m hm hme o ho a bb W e1 e2 e3
            simp only [List.mem_cons, List.not_mem_nil, or_false] at hst hm
            rcases hst with rfl | rfl <;> rcases hm with rfl | rfl <;> first | (exact absurd hme (by decide)) | (simp at ho; subst ho; exact st28 _ _ _ _ _ _ _ _ a bb W e1 (e2.trans rfl) e3)
          case HT8a =>
            intro F w8 hC hheld hinj
            obtain ⟨hX1, hX⟩ := hheld ⟨14, 10, zobj⟩ (by simp)
            obtain ⟨hY1, hY⟩ := hheld ⟨15, 11, zobj⟩ (by simp)
            clear hinj hheld
            simp only [Mild2.objFin, List.find?] at hX hY
            simp only [List.drop_succ_cons, List.drop_zero, Mild2.putAll, List.foldl_cons, List.foldl_nil, Mild2.ptrTo, Act.put, List.setIfInBounds_toArray, List.set_cons_zero, List.set_cons_succ]
            dsimp only at hX1 hX hY1 hY
            generalize F 14 = X at *
            generalize F 15 = Y at *
            have HB : Hid (SumB (SL w L (w.heap.size + 2) p q r s n0 n1 n2) X Y p q w8) := Lib.hid ⟨hC, is3_of hX, is3_of hY⟩
            clear F hC hX hY hX1 hY1 HC
            go_wp2_with fail
            unfold Met
            refine sums_rest_any w L (w.heap.size + 2) X Y p q r s p q n0 n1 n2 0 _ _ _ _ _ _ _ _ _ _ _ _ _ _ _ _ _ _ _ _ _ _ _ _ _ _ _ _ _ _ _ _ _ _ _ _ _ _ _ _ _ _ _ _ _ _ _ _ _ _ _ _ _ _ _ _ _ _ _ _ _ _ _ _ _ _ _ _ _ _ _ _ _ _ _ _ _ _ _ _ _ _ _ _ _ _ _ _ _ _ _ _ _ _ _ _ _ _ _ _ _ _ _ _ _ _ _ _ _ _ _ _ _ _ _ _ _ _ _ _ _ _ _ _ _ _ _ _ _ _ _ _ _ _ _ _ _ _ _ _ _ _ _ _ _ _ _ _ _ _ _ _ _ _ _ _ _ _ _ _ _ _ _ _ _ _ _ _ _ _ _ _ _ _ _ _ _ _ _ _ _ _ _ _ _ _ _ _ _ _ _ _ _ _ _ _ _ _ _ _ hp hq (by omega) (by omega) h00 h01 h10 h11 h20 h21 (.inl rfl) _ HB.out _ ?_
            clear HB
            intro y13 y14 y15 y16 y17 y18 y19 y52 y53 y54 y55 y56 y57 y58 y59 y60 y61 y62 y63 y64 y65 y66 y67 y68 y69 y70 y71 y72 y73 y74 y75 y76 y77 y78 y79 y80 y81 y82 y83 y84 y85 y86 y87 y88 y89 y90 y91 y92 y93 y94 y95 y96 y97 y98 y99 y100 y101 y102 y103 y104 y105 y106 y107 y108 y109 y110 y111 y112 y113 y114 y115 y116 y117 y118 y119 y120 y121 y122 y123 y124 y125 y126 y127 y128 y129 y130 y131 y132 y133 y134 y135 y136 y137 y138 y139 y140 y141 y142 y143 y144 y145 y146 y147 y148 y149 y150 y151 y152 y153 y154 y155 y156 y157 y158 y159 y160 y161 y162 y163 y164 y165 y166 y167 y168 y169 y170 y171 y172 y173 y174 y175 y176 y177 y178 y179 y180 y181 y182 y183 y184 y185 y186 y187 y188 y189 y190 y191 y192 y193 y194 y195 y196 y197 y198 y199 y200 y201 y202 y203 W9 HE
            go_wp2_with fail
            go_roundw
            case rel => (repeat apply Exists.intro); exact ⟨⟨1, by omega, rfl, HE⟩, rfl⟩
            case measure => simp [intOf]
        · go_wp2_with fail
          rename_i K0 hK0 K1 hK1
          have HK : ∀ a w, Met (Code.wp Try.prog sumsRest _) a w → K1 a w := fun a w h => hK1 a w h
          clear hK1
          refine Mild2.region_mild 18 [⟨14, 10, zobj⟩, ⟨15, 11, zobj⟩] [⟨16, 14, 10, 4, 42, .cells #[.int .i64 r.lo, .int .i64 r.hi, .int .i64 r.st] 28⟩, ⟨17, 15, 11, 9, 47, .cells #[.int .i64 s.lo, .int .i64 s.hi, .int .i64 s.st] 28⟩] (SL w L (w.heap.size + 2) p q r s n0 n1 n2) (by kernel_rfl) 205 (by kernel_rfl) rfl (by simp) (by simp) (by simp) Mild.Cls.closed (cls_touch (cls_blocks HC.out) HC.out.big) HC.out ?M8b ?H8b
          case M8b => simp; exact ⟨mk28 _ _ _ _ _, mk28 _ _ _ _ _⟩
          apply Exists.intro
          refine ⟨?HW8b, ?HS8b, ?HT8b⟩
          case HW8b =>
            intro W hW
            have hWc := hW.cells; simp only [List.forall_mem_cons, List.not_mem_nil, false_imp_iff, implies_true, and_true] at hWc; obtain ⟨g0, g1, g2, g3, g4, g5, g6, g7, g8, g9, g10, g11, g12, g13, g14⟩ := hWc
            clear hW
            simp only [List.take_succ_cons, List.take_zero]
            repeat (apply walkM2_q rfl; (go_wp2_with fail); (first | refine ⟨rfl, rfl, Below.refl _ _, ?_⟩ | refine ⟨rfl, rfl, hb, ?_⟩))
            repeat apply walkM2_m rfl
            exact walkM2_end rfl
          case HS8b =>
            intro st hst m hm hme o ho a bb W e1 e2 e3
            simp only [List.mem_cons, List.not_mem_nil, or_false] at hst hm
            rcases hst with rfl | rfl <;> rcases hm with rfl | rfl <;> first | (exact absurd hme (by decide)) | (simp at ho; subst ho; exact st28 _ _ _ _ _ _ _ _ a bb W e1 (e2.trans rfl) e3)
          case HT8b =>
            intro F w8 hC hheld hinj
            obtain ⟨hX1, hX⟩ := hheld ⟨14, 10, zobj⟩ (by simp)
            obtain ⟨hY1, hY⟩ := hheld ⟨15, 11, zobj⟩ (by simp)
            clear hinj hheld
            simp only [Mild2.objFin, List.find?] at hX hY
            simp only [List.drop_succ_cons, List.drop_zero, Mild2.putAll, List.foldl_cons, List.foldl_nil, Mild2.ptrTo, Act.put, List.setIfInBounds_toArray, List.set_cons_zero, List.set_cons_succ]
            dsimp only at hX1 hX hY1 hY
            generalize F 14 = X at *
            generalize F 15 = Y at *
            have HB : Hid (SumB (SL w L (w.heap.size + 2) p q r s n0 n1 n2) X Y r s w8) := Lib.hid ⟨hC, is3_of hX, is3_of hY⟩
            clear F hC hX hY hX1 hY1 HC
            go_wp2_with fail
            unfold Met
            refine sums_rest_any w L (w.heap.size + 2) X Y p q r s r s n0 n1 n2 1 _ _ _ _ _ _ _ _ _ _ _ _ _ _ _ _ _ _ _ _ _ _ _ _ _ _ _ _ _ _ _ _ _ _ _ _ _ _ _ _ _ _ _ _ _ _ _ _ _ _ _ _ _ _ _ _ _ _ _ _ _ _ _ _ _ _ _ _ _ _ _ _ _ _ _ _ _ _ _ _ _ _ _ _ _ _ _ _ _ _ _ _ _ _ _ _ _ _ _ _ _ _ _ _ _ _ _ _ _ _ _ _ _ _ _ _ _ _ _ _ _ _ _ _ _ _ _ _ _ _ _ _ _ _ _ _ _ _ _ _ _ _ _ _ _ _ _ _ _ _ _ _ _ _ _ _ _ _ _ _ _ _ _ _ _ _ _ _ _ _ _ _ _ _ _ _ _ _ _ _ _ _ _ _ _ _ _ _ _ _ _ _ _ _ _ _ _ _ _ _ hr hs (by omega) (by omega) h00 h01 h10 h11 h20 h21 (.inr ⟨rfl, small_mul hr hs (by omega) (by omega) (by omega) (by omega)⟩) _ HB.out _ ?_
            clear HB
            intro y13 y14 y15 y16 y17 y18 y19 y52 y53 y54 y55 y56 y57 y58 y59 y60 y61 y62 y63 y64 y65 y66 y67 y68 y69 y70 y71 y72 y73 y74 y75 y76 y77 y78 y79 y80 y81 y82 y83 y84 y85 y86 y87 y88 y89 y90 y91 y92 y93 y94 y95 y96 y97 y98 y99 y100 y101 y102 y103 y104 y105 y106 y107 y108 y109 y110 y111 y112 y113 y114 y115 y116 y117 y118 y119 y120 y121 y122 y123 y124 y125 y126 y127 y128 y129 y130 y131 y132 y133 y134 y135 y136 y137 y138 y139 y140 y141 y142 y143 y144 y145 y146 y147 y148 y149 y150 y151 y152 y153 y154 y155 y156 y157 y158 y159 y160 y161 y162 y163 y164 y165 y166 y167 y168 y169 y170 y171 y172 y173 y174 y175 y176 y177 y178 y179 y180 y181 y182 y183 y184 y185 y186 y187 y188 y189 y190 y191 y192 y193 y194 y195 y196 y197 y198 y199 y200 y201 y202 y203 W9 HE
            go_wp2_with fail
            go_roundw
            case rel => (repeat apply Exists.intro); exact ⟨⟨2, by omega, rfl, HE⟩, rfl⟩
            case measure => simp [intOf]
      · have hj2 : j = 2 := by omega
        subst hj2
        have hB := HC.out.below
        go_wp2_with fail
        go_ret
        exact ⟨rfl, hB⟩
end Go.Proofs.Ytnihhchgnkfcgaa

