/- The reference: two arrays of numbers. -/
import Derived.Test.YtajccjbigcdkbaaGreatDoorZb
-- USEBDN
set_option linter.unusedSimpArgs false
set_option linter.unusedVariables false
namespace Go.Proofs.YtajccjbigcdkbaaGreatDoor
open Go.ChangeShapes Go.WideShapes Go.ChangeAt Go.RowKit
theorem bks_none {B : Nat} {w0 : World} {bs : List (Nat × Obj)} {W : World} (h : Mild.Bks B w0 bs W) : Mild.Bks B w0 [] W := ⟨h.below, h.big, fun q hq => by cases hq⟩
abbrev zo4 : Obj := .cells #[.int .i64 0, .int .i64 0, .int .i64 0, .int .i64 0] 28
theorem mk4 (dst : Option Tmp) (ty : TypeId) (pos : String) (after : Array Edge) (g : Option (Nat × Bool)) (ρ : Operand → Value) (W : World) :
    (execOp ρ ⟨dst, .alloc 28, ty, pos, after, g⟩).run Tryz.prog W = .ok (.value (Mild2.ptrTo W.heap.size)) (W.alloc zo4) := by
  simp [go_sem, Mild2.ptrTo]
theorem st4 (ptr src : Tmp) (ty : TypeId) (pos : String) (after : Array Edge) (c : Co) (a : Act) (b : Nat) (W : World) (h1 : Mild2.slot a ptr = Mild2.ptrTo b) (h2 : Mild2.slot a src = cov c) (hW : W.heap[b]? = some zo4) :
    ∃ u W', (execOp a.eval ⟨none, .store 28 (.tmp ptr) (.tmp src), ty, pos, after, none⟩).run Tryz.prog W = .ok u W' ∧ (u = .skip ∨ ∃ v, u = .value v) ∧ Mild2.Touch b W W' ∧ W'.heap[b]? = some (.cells (coc c) 28) := by
  have e1 : a.tmps[ptr]?.getD undef = .pointer (some ⟨b, 0, none⟩) := by rw [← Array.getD_eq_getD_getElem?]; exact h1
  have e2 : a.tmps[src]?.getD undef = .agg #[.int .i64 c.a, .int .i64 c.b, .int .i64 c.c, .int .i64 c.d] := by rw [← Array.getD_eq_getD_getElem?]; exact h2
  have c0 := Mild.cell_of_block hW
  have f0 := Mild.free_of_block hW
  have g0 := Joins.block_setCell (i := 0) hW (.int .i64 c.a)
  have g1 := Joins.block_setCell (i := 1) g0 (.int .i64 c.b)
  have g2 := Joins.block_setCell (i := 2) g1 (.int .i64 c.c)
  have g3 := Joins.block_setCell (i := 3) g2 (.int .i64 c.d)
  refine ⟨.skip, (((W.setCell ⟨b, 0, none⟩ (.int .i64 c.a)).setCell ⟨b, 1, none⟩ (.int .i64 c.b)).setCell ⟨b, 2, none⟩ (.int .i64 c.c)).setCell ⟨b, 3, none⟩ (.int .i64 c.d), ?_, .inl rfl, touch_trans (touch_trans (touch_trans (touch_setCell _ _ _ _) (touch_setCell _ _ _ _)) (touch_setCell _ _ _ _)) (touch_setCell _ _ _ _), ?_⟩
  · simp [go_sem, e1, e2, c0, f0]
  · rw [g3]; rfl

set_option maxRecDepth 100000 in
set_option maxHeartbeats 4000000 in
theorem radd1 (w0 W : World) (X Y R : Nat) (ro : Obj) (x y : Co) (hX : X < W.heap.size) (hY : Y < W.heap.size) (hR : R < W.heap.size) (hC : Mild.Bks w0.heap.size w0 [(X, .cells (coc x) 23), (Y, .cells (coc y) 23), (R, ro)] W)
    (j0 j1 j4 j5 j6 j7 j8 j9 j10 j11 j12 j13 j14 j15 j16 j17 j18 j19 j20 j21 j22 j23 j24 j25 j26 : Value) (Q0 : Exit → Act → World → Prop)
    (h0 : ∀ A B j8 j9 j10 j11 W', w0.heap.size ≤ A → A ≠ B → R ≠ A → Mild.Bks w0.heap.size w0 [(A, .cells (coc x) 28), (B, .cells (coc y) 28), (R, ro)] W' → Q0 .normal { tmps := #[j0, j1, pt X 0, pt Y 0, j4, pt A 0, pt B 0, j7, j8, j9, j10, j11, j12, j13, j14, j15, j16, j17, j18, j19, j20, j21, j22, j23, j24, j25, j26], defers := [] } W') :
    (navC [1, 0] (Tryz.f8.body.getD .skip)).wp Tryz.prog Q0 { tmps := #[j0, j1, pt X 0, pt Y 0, j4, j5, j6, j7, j8, j9, j10, j11, j12, j13, j14, j15, j16, j17, j18, j19, j20, j21, j22, j23, j24, j25, j26], defers := [] } W := by
  conv => arg 2; whnf
  have H0 := Lib.hid h0; clear h0
  refine Mild2.region_mild 7 [⟨4, 5, zo4⟩, ⟨5, 6, zo4⟩] [⟨6, 4, 5, 1, 9, .cells (coc x) 28⟩] (Mild.Bks w0.heap.size w0 [(X, .cells (coc x) 23), (Y, .cells (coc y) 23), (R, ro)]) (by kernel_rfl) 27 (by kernel_rfl) rfl (by simp) (by simp) (by simp) Mild.Bks.closed (bks_touch (by simp; omega) hC.big) hC ?M10 ?H10
  case M10 => simp; exact ⟨mk4 _ _ _ _ _, mk4 _ _ _ _ _⟩
  apply Exists.intro
  refine ⟨?HW10, ?HS10, ?HT10⟩
  case HW10 =>
    intro W hW
    have hb := hW.blocks
    simp only [List.forall_mem_cons, List.not_mem_nil, false_imp_iff, implies_true, and_true] at hb
    have cX := Mild.cell_of_block hb.1
    have cY := Mild.cell_of_block hb.2.1
    clear hW hb
    simp only [List.take_succ_cons, List.take_zero]
    apply walkM2_q rfl
    go_wp2
    refine ⟨rfl, rfl, Below.refl _ _, ?_⟩
    apply walkM2_q rfl
    go_wp2_with (go_at_call 6; refine (numbers_any x _).mono ?_; rintro e w1 ⟨rfl, hb⟩)
    refine ⟨rfl, rfl, hb, ?_⟩
    apply walkM2_q rfl
    go_wp2
    refine ⟨rfl, rfl, Below.refl _ _, ?_⟩
    apply walkM2_q rfl
    go_wp2_with (go_at_call 6; refine (numbers_any y _).mono ?_; rintro e w1 ⟨rfl, hb⟩)
    refine ⟨rfl, rfl, hb, ?_⟩
    repeat apply walkM2_m rfl
    exact walkM2_end rfl
  case HS10 =>
    intro st hst m hm hme o ho a bb W e1 e2 e3
    simp only [List.mem_cons, List.not_mem_nil, or_false] at hst hm
    subst hst; rcases hm with rfl | rfl <;> first | (exact absurd hme (by decide)) | (simp at ho; subst ho; exact st4 _ _ _ _ _ _ a bb W e1 (e2.trans rfl) e3)
  case HT10 =>
    intro F w10 hC10 hheld hinj
    obtain ⟨hS1, hS⟩ := hheld ⟨4, 5, zo4⟩ (by simp)
    obtain ⟨hU1, hU⟩ := hheld ⟨5, 6, zo4⟩ (by simp)
    have k1 : F 4 ≠ F 5 := hinj ⟨4, 5, zo4⟩ (by simp) ⟨5, 6, zo4⟩ (by simp) (by decide)
    clear hinj hheld
    simp only [Mild2.objFin, List.find?] at hS hU
    simp only [List.drop_succ_cons, List.drop_zero, Mild2.putAll, List.foldl_cons, List.foldl_nil, Mild2.ptrTo, Act.put, List.setIfInBounds_toArray, List.set_cons_zero, List.set_cons_succ]
    dsimp only at hS1 hS hU1 hU
    have k2 : R ≠ F 5 := by omega
    have k3 : R ≠ F 4 := by omega
    have hbig := hC.big
    have k4 : w0.heap.size ≤ F 4 := by omega
    generalize F 4 = S at *
    generalize F 5 = U at *
    have hYb := hC10.blocks
    simp only [List.forall_mem_cons, List.not_mem_nil, false_imp_iff, implies_true, and_true] at hYb
    have HR := Lib.hid hYb.2.2; clear hYb
    have HN := Lib.hid (bks_none hC10)
    have HS := Lib.hid hS
    have HU := Lib.hid hU
    have fU := Mild.free_of_block hU
    have cU := Mild.cell_of_block hU
    clear hS hU hC10 F
    go_wp2
    have hU2 := Joins.block_setCell (i := 3) (Joins.block_setCell (i := 2) (Joins.block_setCell (i := 1) (Joins.block_setCell (i := 0) HU.out (.int .i64 y.a)) (.int .i64 y.b)) (.int .i64 y.c)) (.int .i64 y.d)
    refine H0.out S U _ _ _ _ _ k4 k1 k3 ⟨by have := HN.out.below; (repeat' (first | (with_reducible exact Below.refl _ _) | (with_reducible assumption) | (with_reducible refine Below.alloc ?_ ?_ _) | (with_reducible refine Below.drew ?_) | (with_reducible refine bdn ?_ _) | (with_reducible refine Below.setCell ?_ ?_ _) | go_size)), by have := HN.out.big; simp [World.setCell]; omega, ?_⟩
    simp only [List.forall_mem_cons, List.not_mem_nil, false_imp_iff, implies_true, and_true]
    exact ⟨Mild.set_ne (Mild.set_ne (Mild.set_ne (Mild.set_ne HS.out k1) k1) k1) k1, hU2, Mild.set_ne (Mild.set_ne (Mild.set_ne (Mild.set_ne HR.out k2) k2) k2) k2⟩

set_option maxRecDepth 100000 in
set_option maxHeartbeats 4000000 in
theorem rsub1 (w0 W : World) (X Y R : Nat) (ro : Obj) (x y : Co) (hX : X < W.heap.size) (hY : Y < W.heap.size) (hR : R < W.heap.size) (hC : Mild.Bks w0.heap.size w0 [(X, .cells (coc x) 23), (Y, .cells (coc y) 23), (R, ro)] W)
    (j0 j1 j4 j5 j6 j7 j8 j9 j10 j11 j12 j13 j14 j15 j16 j17 j18 j19 j20 j21 j22 j23 j24 j25 j26 : Value) (Q0 : Exit → Act → World → Prop)
    (h0 : ∀ A B j8 j9 j10 j11 W', w0.heap.size ≤ A → A ≠ B → R ≠ A → Mild.Bks w0.heap.size w0 [(A, .cells (coc x) 28), (B, .cells (coc y) 28), (R, ro)] W' → Q0 .normal { tmps := #[j0, j1, pt X 0, pt Y 0, j4, pt A 0, pt B 0, j7, j8, j9, j10, j11, j12, j13, j14, j15, j16, j17, j18, j19, j20, j21, j22, j23, j24, j25, j26], defers := [] } W') :
    (navC [1, 0] (Tryz.f10.body.getD .skip)).wp Tryz.prog Q0 { tmps := #[j0, j1, pt X 0, pt Y 0, j4, j5, j6, j7, j8, j9, j10, j11, j12, j13, j14, j15, j16, j17, j18, j19, j20, j21, j22, j23, j24, j25, j26], defers := [] } W := by
  conv => arg 2; whnf
  have H0 := Lib.hid h0; clear h0
  refine Mild2.region_mild 7 [⟨4, 5, zo4⟩, ⟨5, 6, zo4⟩] [⟨6, 4, 5, 1, 9, .cells (coc x) 28⟩] (Mild.Bks w0.heap.size w0 [(X, .cells (coc x) 23), (Y, .cells (coc y) 23), (R, ro)]) (by kernel_rfl) 27 (by kernel_rfl) rfl (by simp) (by simp) (by simp) Mild.Bks.closed (bks_touch (by simp; omega) hC.big) hC ?M10 ?H10
  case M10 => simp; exact ⟨mk4 _ _ _ _ _, mk4 _ _ _ _ _⟩
  apply Exists.intro
  refine ⟨?HW10, ?HS10, ?HT10⟩
  case HW10 =>
    intro W hW
    have hb := hW.blocks
    simp only [List.forall_mem_cons, List.not_mem_nil, false_imp_iff, implies_true, and_true] at hb
    have cX := Mild.cell_of_block hb.1
    have cY := Mild.cell_of_block hb.2.1
    clear hW hb
    simp only [List.take_succ_cons, List.take_zero]
    apply walkM2_q rfl
    go_wp2
    refine ⟨rfl, rfl, Below.refl _ _, ?_⟩
    apply walkM2_q rfl
    go_wp2_with (go_at_call 6; refine (numbers_any x _).mono ?_; rintro e w1 ⟨rfl, hb⟩)
    refine ⟨rfl, rfl, hb, ?_⟩
    apply walkM2_q rfl
    go_wp2
    refine ⟨rfl, rfl, Below.refl _ _, ?_⟩
    apply walkM2_q rfl
    go_wp2_with (go_at_call 6; refine (numbers_any y _).mono ?_; rintro e w1 ⟨rfl, hb⟩)
    refine ⟨rfl, rfl, hb, ?_⟩
    repeat apply walkM2_m rfl
    exact walkM2_end rfl
  case HS10 =>
    intro st hst m hm hme o ho a bb W e1 e2 e3
    simp only [List.mem_cons, List.not_mem_nil, or_false] at hst hm
    subst hst; rcases hm with rfl | rfl <;> first | (exact absurd hme (by decide)) | (simp at ho; subst ho; exact st4 _ _ _ _ _ _ a bb W e1 (e2.trans rfl) e3)
  case HT10 =>
    intro F w10 hC10 hheld hinj
    obtain ⟨hS1, hS⟩ := hheld ⟨4, 5, zo4⟩ (by simp)
    obtain ⟨hU1, hU⟩ := hheld ⟨5, 6, zo4⟩ (by simp)
    have k1 : F 4 ≠ F 5 := hinj ⟨4, 5, zo4⟩ (by simp) ⟨5, 6, zo4⟩ (by simp) (by decide)
    clear hinj hheld
    simp only [Mild2.objFin, List.find?] at hS hU
    simp only [List.drop_succ_cons, List.drop_zero, Mild2.putAll, List.foldl_cons, List.foldl_nil, Mild2.ptrTo, Act.put, List.setIfInBounds_toArray, List.set_cons_zero, List.set_cons_succ]
    dsimp only at hS1 hS hU1 hU
    have k2 : R ≠ F 5 := by omega
    have k3 : R ≠ F 4 := by omega
    have hbig := hC.big
    have k4 : w0.heap.size ≤ F 4 := by omega
    generalize F 4 = S at *
    generalize F 5 = U at *
    have hYb := hC10.blocks
    simp only [List.forall_mem_cons, List.not_mem_nil, false_imp_iff, implies_true, and_true] at hYb
    have HR := Lib.hid hYb.2.2; clear hYb
    have HN := Lib.hid (bks_none hC10)
    have HS := Lib.hid hS
    have HU := Lib.hid hU
    have fU := Mild.free_of_block hU
    have cU := Mild.cell_of_block hU
    clear hS hU hC10 F
    go_wp2
    have hU2 := Joins.block_setCell (i := 3) (Joins.block_setCell (i := 2) (Joins.block_setCell (i := 1) (Joins.block_setCell (i := 0) HU.out (.int .i64 y.a)) (.int .i64 y.b)) (.int .i64 y.c)) (.int .i64 y.d)
    refine H0.out S U _ _ _ _ _ k4 k1 k3 ⟨by have := HN.out.below; (repeat' (first | (with_reducible exact Below.refl _ _) | (with_reducible assumption) | (with_reducible refine Below.alloc ?_ ?_ _) | (with_reducible refine Below.drew ?_) | (with_reducible refine bdn ?_ _) | (with_reducible refine Below.setCell ?_ ?_ _) | go_size)), by have := HN.out.big; simp [World.setCell]; omega, ?_⟩
    simp only [List.forall_mem_cons, List.not_mem_nil, false_imp_iff, implies_true, and_true]
    exact ⟨Mild.set_ne (Mild.set_ne (Mild.set_ne (Mild.set_ne HS.out k1) k1) k1) k1, hU2, Mild.set_ne (Mild.set_ne (Mild.set_ne (Mild.set_ne HR.out k2) k2) k2) k2⟩

set_option maxRecDepth 100000 in
set_option maxHeartbeats 4000000 in
theorem rat1 (w0 W : World) (X Y R : Nat) (ro : Obj) (x y : Co) (hX : X < W.heap.size) (hY : Y < W.heap.size) (hR : R < W.heap.size) (hC : Mild.Bks w0.heap.size w0 [(X, .cells (coc x) 23), (Y, .cells (coc y) 23), (R, ro)] W)
    (j0 j1 j4 j5 j6 j7 j8 j9 j10 j11 j12 j13 j14 j15 j16 j17 j18 j19 j20 j21 j22 j23 j24 j25 j26 j27 j28 j29 j30 j31 j32 j33 j34 j35 j36 : Value) (Q0 : Exit → Act → World → Prop)
    (h0 : ∀ A B j7 j8 j9 j10 W', w0.heap.size ≤ A → A ≠ B → R ≠ A → Mild.Bks w0.heap.size w0 [(A, .cells (coc x) 28), (B, .cells (coc y) 28), (R, ro)] W' → Q0 .normal { tmps := #[j0, j1, pt X 0, pt Y 0, j4, pt A 0, pt B 0, j7, j8, j9, j10, j11, j12, j13, j14, j15, j16, j17, j18, j19, j20, j21, j22, j23, j24, j25, j26, j27, j28, j29, j30, j31, j32, j33, j34, j35, j36], defers := [] } W') :
    (navC [1, 0] (Tryz.f12.body.getD .skip)).wp Tryz.prog Q0 { tmps := #[j0, j1, pt X 0, pt Y 0, j4, j5, j6, j7, j8, j9, j10, j11, j12, j13, j14, j15, j16, j17, j18, j19, j20, j21, j22, j23, j24, j25, j26, j27, j28, j29, j30, j31, j32, j33, j34, j35, j36], defers := [] } W := by
  conv => arg 2; whnf
  have H0 := Lib.hid h0; clear h0
  refine Mild2.region_mild 7 [⟨4, 5, zo4⟩, ⟨5, 6, zo4⟩] [⟨6, 4, 5, 1, 8, .cells (coc x) 28⟩] (Mild.Bks w0.heap.size w0 [(X, .cells (coc x) 23), (Y, .cells (coc y) 23), (R, ro)]) (by kernel_rfl) 37 (by kernel_rfl) rfl (by simp) (by simp) (by simp) Mild.Bks.closed (bks_touch (by simp; omega) hC.big) hC ?M10 ?H10
  case M10 => simp; exact ⟨mk4 _ _ _ _ _, mk4 _ _ _ _ _⟩
  apply Exists.intro
  refine ⟨?HW10, ?HS10, ?HT10⟩
  case HW10 =>
    intro W hW
    have hb := hW.blocks
    simp only [List.forall_mem_cons, List.not_mem_nil, false_imp_iff, implies_true, and_true] at hb
    have cX := Mild.cell_of_block hb.1
    have cY := Mild.cell_of_block hb.2.1
    clear hW hb
    simp only [List.take_succ_cons, List.take_zero]
    apply walkM2_q rfl
    go_wp2
    refine ⟨rfl, rfl, Below.refl _ _, ?_⟩
    apply walkM2_q rfl
    go_wp2_with (go_at_call 6; refine (numbers_any x _).mono ?_; rintro e w1 ⟨rfl, hb⟩)
    refine ⟨rfl, rfl, hb, ?_⟩
    apply walkM2_q rfl
    go_wp2
    refine ⟨rfl, rfl, Below.refl _ _, ?_⟩
    apply walkM2_q rfl
    go_wp2_with (go_at_call 6; refine (numbers_any y _).mono ?_; rintro e w1 ⟨rfl, hb⟩)
    refine ⟨rfl, rfl, hb, ?_⟩
    repeat apply walkM2_m rfl
    exact walkM2_end rfl
  case HS10 =>
    intro st hst m hm hme o ho a bb W e1 e2 e3
    simp only [List.mem_cons, List.not_mem_nil, or_false] at hst hm
    subst hst; rcases hm with rfl | rfl <;> first | (exact absurd hme (by decide)) | (simp at ho; subst ho; exact st4 _ _ _ _ _ _ a bb W e1 (e2.trans rfl) e3)
  case HT10 =>
    intro F w10 hC10 hheld hinj
    obtain ⟨hS1, hS⟩ := hheld ⟨4, 5, zo4⟩ (by simp)
    obtain ⟨hU1, hU⟩ := hheld ⟨5, 6, zo4⟩ (by simp)
    have k1 : F 4 ≠ F 5 := hinj ⟨4, 5, zo4⟩ (by simp) ⟨5, 6, zo4⟩ (by simp) (by decide)
    clear hinj hheld
    simp only [Mild2.objFin, List.find?] at hS hU
    simp only [List.drop_succ_cons, List.drop_zero, Mild2.putAll, List.foldl_cons, List.foldl_nil, Mild2.ptrTo, Act.put, List.setIfInBounds_toArray, List.set_cons_zero, List.set_cons_succ]
    dsimp only at hS1 hS hU1 hU
    have k2 : R ≠ F 5 := by omega
    have k3 : R ≠ F 4 := by omega
    have hbig := hC.big
    have k4 : w0.heap.size ≤ F 4 := by omega
    generalize F 4 = S at *
    generalize F 5 = U at *
    have hYb := hC10.blocks
    simp only [List.forall_mem_cons, List.not_mem_nil, false_imp_iff, implies_true, and_true] at hYb
    have HR := Lib.hid hYb.2.2; clear hYb
    have HN := Lib.hid (bks_none hC10)
    have HS := Lib.hid hS
    have HU := Lib.hid hU
    have fU := Mild.free_of_block hU
    have cU := Mild.cell_of_block hU
    clear hS hU hC10 F
    go_wp2
    have hU2 := Joins.block_setCell (i := 3) (Joins.block_setCell (i := 2) (Joins.block_setCell (i := 1) (Joins.block_setCell (i := 0) HU.out (.int .i64 y.a)) (.int .i64 y.b)) (.int .i64 y.c)) (.int .i64 y.d)
    refine H0.out S U _ _ _ _ _ k4 k1 k3 ⟨by have := HN.out.below; (repeat' (first | (with_reducible exact Below.refl _ _) | (with_reducible assumption) | (with_reducible refine Below.alloc ?_ ?_ _) | (with_reducible refine Below.drew ?_) | (with_reducible refine bdn ?_ _) | (with_reducible refine Below.setCell ?_ ?_ _) | go_size)), by have := HN.out.big; simp [World.setCell]; omega, ?_⟩
    simp only [List.forall_mem_cons, List.not_mem_nil, false_imp_iff, implies_true, and_true]
    exact ⟨Mild.set_ne (Mild.set_ne (Mild.set_ne (Mild.set_ne HS.out k1) k1) k1) k1, hU2, Mild.set_ne (Mild.set_ne (Mild.set_ne (Mild.set_ne HR.out k2) k2) k2) k2⟩

set_option maxRecDepth 100000 in
set_option maxHeartbeats 4000000 in
theorem radd5 (w0 W : World) (A B R : Nat) (ro : Obj) (i : Nat) (hi : i < 4) (xs ys : Array Value) (x y : Int) (hx : xs[i]? = some (.int .i64 x)) (hy : ys[i]? = some (.int .i64 y)) (hAB : A ≠ B) (hAR : R ≠ A) (hA : w0.heap.size ≤ A) (hC : Mild.Bks w0.heap.size w0 [(A, .cells xs 28), (B, .cells ys 28), (R, ro)] W)
    (j0 j1 j2 j3 j4 j8 j9 j10 j11 j12 j13 j14 j15 j16 j17 j18 j19 j20 j21 j22 j23 j24 j25 j26 : Value) (Q0 : Exit → Act → World → Prop)
    (h0 : ∀ j16 j17 j18 j19 j20 j21 j22 j23 j24 W', Mild.Bks w0.heap.size w0 [(A, .cells (xs.setIfInBounds i (.int .i64 (wrap64 (x + y)))) 28), (B, .cells ys 28), (R, ro)] W' → Q0 .normal { tmps := #[j0, j1, j2, j3, j4, pt A 0, pt B 0, .int .i64 i, j8, j9, j10, j11, j12, j13, j14, j15, j16, j17, j18, j19, j20, j21, j22, j23, j24, j25, j26], defers := [] } W') :
    (navC [1, 1, 0, 1, 1, 1, 1, 0, 1] (Tryz.f8.body.getD .skip)).wp Tryz.prog Q0 { tmps := #[j0, j1, j2, j3, j4, pt A 0, pt B 0, .int .i64 i, j8, j9, j10, j11, j12, j13, j14, j15, j16, j17, j18, j19, j20, j21, j22, j23, j24, j25, j26], defers := [] } W := by
  conv => arg 2; whnf
  have H0 := Lib.hid h0; clear h0
  refine Mild.region_mild 8 [] (Mild.Bks w0.heap.size w0 [(A, .cells xs 28), (B, .cells ys 28), (R, ro)]) (by kernel_rfl) 27 (by kernel_rfl) rfl (by simp) Mild.Bks.closed hC (by simp) ?H
  apply Exists.intro
  refine ⟨?HW, ?HT⟩
  case HW =>
    intro W hW
    have hb := hW.blocks
    simp only [List.forall_mem_cons, List.not_mem_nil, false_imp_iff, implies_true, and_true] at hb
    have cA := (Mild.cell_of_block hb.1 i).trans hx
    have cB := (Mild.cell_of_block hb.2.1 i).trans hy
    clear hW hb
    simp only [List.take_succ_cons, List.take_zero]
    iterate 8 (apply Mild.walkM_q rfl; go_wp2; refine ⟨rfl, rfl, Below.refl _ _, ?_⟩)
    exact Mild.walkM_end rfl
  case HT =>
    intro F w2 hC _ _
    simp only [List.drop_succ_cons, List.drop_zero, Mild.putAll, List.foldl_cons, List.foldl_nil, Mild.ptrTo, Act.put, List.setIfInBounds_toArray, List.set_cons_zero, List.set_cons_succ]
    have hb := hC.blocks
    simp only [List.forall_mem_cons, List.not_mem_nil, false_imp_iff, implies_true, and_true] at hb
    obtain ⟨b1, b2, b3⟩ := hb
    have cA := (Mild.cell_of_block b1 i).trans hx
    have fA := Mild.free_of_block b1
    go_wp2
    refine H0.out _ _ _ _ _ _ _ _ _ _ ⟨hC.below.setCell hA _, by simp [World.setCell]; exact hC.big, ?_⟩
    simp only [List.forall_mem_cons, List.not_mem_nil, false_imp_iff, implies_true, and_true]
    exact ⟨Joins.block_setCell b1 _, Mild.set_ne b2 hAB.symm, Mild.set_ne b3 hAR⟩

set_option maxRecDepth 100000 in
set_option maxHeartbeats 4000000 in
theorem rsub5 (w0 W : World) (A B R : Nat) (ro : Obj) (i : Nat) (hi : i < 4) (xs ys : Array Value) (x y : Int) (hx : xs[i]? = some (.int .i64 x)) (hy : ys[i]? = some (.int .i64 y)) (hAB : A ≠ B) (hAR : R ≠ A) (hA : w0.heap.size ≤ A) (hC : Mild.Bks w0.heap.size w0 [(A, .cells xs 28), (B, .cells ys 28), (R, ro)] W)
    (j0 j1 j2 j3 j4 j8 j9 j10 j11 j12 j13 j14 j15 j16 j17 j18 j19 j20 j21 j22 j23 j24 j25 j26 : Value) (Q0 : Exit → Act → World → Prop)
    (h0 : ∀ j16 j17 j18 j19 j20 j21 j22 j23 j24 W', Mild.Bks w0.heap.size w0 [(A, .cells (xs.setIfInBounds i (.int .i64 (wrap64 (x - y)))) 28), (B, .cells ys 28), (R, ro)] W' → Q0 .normal { tmps := #[j0, j1, j2, j3, j4, pt A 0, pt B 0, .int .i64 i, j8, j9, j10, j11, j12, j13, j14, j15, j16, j17, j18, j19, j20, j21, j22, j23, j24, j25, j26], defers := [] } W') :
    (navC [1, 1, 0, 1, 1, 1, 1, 0, 1] (Tryz.f10.body.getD .skip)).wp Tryz.prog Q0 { tmps := #[j0, j1, j2, j3, j4, pt A 0, pt B 0, .int .i64 i, j8, j9, j10, j11, j12, j13, j14, j15, j16, j17, j18, j19, j20, j21, j22, j23, j24, j25, j26], defers := [] } W := by
  conv => arg 2; whnf
  have H0 := Lib.hid h0; clear h0
  refine Mild.region_mild 8 [] (Mild.Bks w0.heap.size w0 [(A, .cells xs 28), (B, .cells ys 28), (R, ro)]) (by kernel_rfl) 27 (by kernel_rfl) rfl (by simp) Mild.Bks.closed hC (by simp) ?H
  apply Exists.intro
  refine ⟨?HW, ?HT⟩
  case HW =>
    intro W hW
    have hb := hW.blocks
    simp only [List.forall_mem_cons, List.not_mem_nil, false_imp_iff, implies_true, and_true] at hb
    have cA := (Mild.cell_of_block hb.1 i).trans hx
    have cB := (Mild.cell_of_block hb.2.1 i).trans hy
    clear hW hb
    simp only [List.take_succ_cons, List.take_zero]
    iterate 8 (apply Mild.walkM_q rfl; go_wp2; refine ⟨rfl, rfl, Below.refl _ _, ?_⟩)
    exact Mild.walkM_end rfl
  case HT =>
    intro F w2 hC _ _
    simp only [List.drop_succ_cons, List.drop_zero, Mild.putAll, List.foldl_cons, List.foldl_nil, Mild.ptrTo, Act.put, List.setIfInBounds_toArray, List.set_cons_zero, List.set_cons_succ]
    have hb := hC.blocks
    simp only [List.forall_mem_cons, List.not_mem_nil, false_imp_iff, implies_true, and_true] at hb
    obtain ⟨b1, b2, b3⟩ := hb
    have cA := (Mild.cell_of_block b1 i).trans hx
    have fA := Mild.free_of_block b1
    go_wp2
    refine H0.out _ _ _ _ _ _ _ _ _ _ ⟨hC.below.setCell hA _, by simp [World.setCell]; exact hC.big, ?_⟩
    simp only [List.forall_mem_cons, List.not_mem_nil, false_imp_iff, implies_true, and_true]
    exact ⟨Joins.block_setCell b1 _, Mild.set_ne b2 hAB.symm, Mild.set_ne b3 hAR⟩
end Go.Proofs.YtajccjbigcdkbaaGreatDoor
namespace Go.Proofs.YtajccjbigcdkbaaGreatDoor
open Go.ChangeShapes Go.WideShapes Go.ChangeAt Go.RowKit

set_option maxRecDepth 100000 in
set_option maxHeartbeats 4000000 in
theorem refadd_any (x y : Co) (w : World) : Calls Tryz.prog 8 #[cov x, cov y] w fun e w' => e = .returned (cov (addM x y)) ∧ Below w.heap.size w w' := by
  go_enter Tryz.func8, Tryz.ntmps8
  go_upto_region 1 with (fail)
  have hC0 : Mild.Bks w.heap.size w [(w.heap.size, .cells (coc x) 23), (w.heap.size + 1, .cells (coc y) 23), (w.heap.size + 1 + 1, .cells (coc ⟨0, 0, 0, 0⟩) 23)] (((w.alloc (.cells (coc x) 23)).alloc (.cells (coc y) 23)).alloc (.cells (coc ⟨0, 0, 0, 0⟩) 23)) := by
    refine ⟨by (repeat' (first | (with_reducible exact Below.refl _ _) | (with_reducible assumption) | (with_reducible refine Below.alloc ?_ ?_ _) | (with_reducible refine Below.drew ?_) | (with_reducible refine bdn ?_ _) | (with_reducible refine Below.setCell ?_ ?_ _) | go_size)), by go_size, ?_⟩
    simp only [List.forall_mem_cons, List.not_mem_nil, false_imp_iff, implies_true, and_true]
    exact ⟨Mild.alloc_lt _ (Mild.alloc_lt _ (Mild.alloc_at _ _)), Mild.alloc_lt _ (by have := Mild.alloc_at (w.alloc (.cells (coc x) 23)) (.cells (coc y) 23); rw [World.size_alloc] at this; exact this), by have := Mild.alloc_at ((w.alloc (.cells (coc x) 23)).alloc (.cells (coc y) 23)) (.cells (coc ⟨0, 0, 0, 0⟩) 23); rw [World.size_alloc, World.size_alloc] at this; exact this⟩
  refine radd1 w _ w.heap.size (w.heap.size + 1) (w.heap.size + 1 + 1) _ x y (by go_size) (by go_size) (by go_size) hC0 _ _ _ _ _ _ _ _ _ _ _ _ _ _ _ _ _ _ _ _ _ _ _ _ _ _ ?_
  clear hC0
  intro A B j8 j9 j10 j11 W1 k1 k2 k3 hC
  have HC := Lib.hid hC; clear hC
  obtain ⟨R, hRe⟩ : ∃ R, w.heap.size + 1 + 1 = R := ⟨_, rfl⟩
  have k3r : w.heap.size ≤ R := by omega
  rw [hRe] at k3 HC ⊢
  clear hRe
  go_wp2
  refine wp_loop_rounds 5 ?_
  rw [rounds_succ]
  go_upto_region 5 with (fail)
  refine radd5 w _ A B R _ 0 (by decide) _ _ _ _ rfl rfl k2 k3 k1 HC.out _ _ _ _ _ _ _ _ _ _ _ _ _ _ _ _ _ _ _ _ _ _ _ _ _ ?_
  clear HC
  intro j16 j17 j18 j19 j20 j21 j22 j23 j24 W2 hC
  have HC := Lib.hid hC; clear hC
  go_wp2
  rw [rounds_succ]
  go_upto_region 5 with (fail)
  refine radd5 w _ A B R _ 1 (by decide) _ _ _ _ rfl rfl k2 k3 k1 HC.out _ _ _ _ _ _ _ _ _ _ _ _ _ _ _ _ _ _ _ _ _ _ _ _ _ ?_
  clear HC
  intro j16 j17 j18 j19 j20 j21 j22 j23 j24 W3 hC
  have HC := Lib.hid hC; clear hC
  go_wp2
  rw [rounds_succ]
  go_upto_region 5 with (fail)
  refine radd5 w _ A B R _ 2 (by decide) _ _ _ _ rfl rfl k2 k3 k1 HC.out _ _ _ _ _ _ _ _ _ _ _ _ _ _ _ _ _ _ _ _ _ _ _ _ _ ?_
  clear HC
  intro j16 j17 j18 j19 j20 j21 j22 j23 j24 W4 hC
  have HC := Lib.hid hC; clear hC
  go_wp2
  rw [rounds_succ]
  go_upto_region 5 with (fail)
  refine radd5 w _ A B R _ 3 (by decide) _ _ _ _ rfl rfl k2 k3 k1 HC.out _ _ _ _ _ _ _ _ _ _ _ _ _ _ _ _ _ _ _ _ _ _ _ _ _ ?_
  clear HC
  intro j16 j17 j18 j19 j20 j21 j22 j23 j24 W5 hC
  have hb : W5.heap[A]? = some (.cells (coc (addM x y)) 28) := hC.blocks _ (List.mem_cons_self ..)
  have hr : W5.heap[R]? = some (.cells (coc ⟨0, 0, 0, 0⟩) 23) := hC.blocks (R, _) (by simp)
  have cA := Mild.cell_of_block hb
  have hB5 := hC.below
  have hz5 := hC.big
  clear hb hC
  obtain ⟨z, hzz⟩ : ∃ z, addM x y = z := ⟨_, rfl⟩
  rw [hzz] at cA
  have HZ := Lib.hid hzz; clear hzz
  go_wp2
  rw [rounds_succ]
  go_wp2_with (go_at_call 21; refine (of_any _ _ _ _ _).mono ?_; rintro e w6 ⟨rfl, hb6⟩; have hr6 : w6.heap[R]? = some (.cells (coc ⟨0, 0, 0, 0⟩) 23) := (by rw [hb6.block _ (Mild.lt_of_block hr)]; exact hr); have cR := Mild.cell_of_block hr6; have fR := Mild.free_of_block hr6)
  have hB6 : Below w.heap.size w w6 := hB5.trans (hb6.mono hz5)
  have hz6 := Nat.le_trans hz5 hb6.size
  exact bodyPost_ret (v := cov z) (by simp [results, Tryz.results8, go_sem, *]) rfl ⟨by rw [HZ.out], (((hB6.setCell k3r _).setCell k3r _).setCell k3r _).setCell k3r _⟩

set_option maxRecDepth 100000 in
set_option maxHeartbeats 4000000 in
theorem refsub_any (x y : Co) (w : World) : Calls Tryz.prog 10 #[cov x, cov y] w fun e w' => e = .returned (cov (subM x y)) ∧ Below w.heap.size w w' := by
  go_enter Tryz.func10, Tryz.ntmps10
  go_upto_region 1 with (fail)
  have hC0 : Mild.Bks w.heap.size w [(w.heap.size, .cells (coc x) 23), (w.heap.size + 1, .cells (coc y) 23), (w.heap.size + 1 + 1, .cells (coc ⟨0, 0, 0, 0⟩) 23)] (((w.alloc (.cells (coc x) 23)).alloc (.cells (coc y) 23)).alloc (.cells (coc ⟨0, 0, 0, 0⟩) 23)) := by
    refine ⟨by (repeat' (first | (with_reducible exact Below.refl _ _) | (with_reducible assumption) | (with_reducible refine Below.alloc ?_ ?_ _) | (with_reducible refine Below.drew ?_) | (with_reducible refine bdn ?_ _) | (with_reducible refine Below.setCell ?_ ?_ _) | go_size)), by go_size, ?_⟩
    simp only [List.forall_mem_cons, List.not_mem_nil, false_imp_iff, implies_true, and_true]
    exact ⟨Mild.alloc_lt _ (Mild.alloc_lt _ (Mild.alloc_at _ _)), Mild.alloc_lt _ (by have := Mild.alloc_at (w.alloc (.cells (coc x) 23)) (.cells (coc y) 23); rw [World.size_alloc] at this; exact this), by have := Mild.alloc_at ((w.alloc (.cells (coc x) 23)).alloc (.cells (coc y) 23)) (.cells (coc ⟨0, 0, 0, 0⟩) 23); rw [World.size_alloc, World.size_alloc] at this; exact this⟩
  refine rsub1 w _ w.heap.size (w.heap.size + 1) (w.heap.size + 1 + 1) _ x y (by go_size) (by go_size) (by go_size) hC0 _ _ _ _ _ _ _ _ _ _ _ _ _ _ _ _ _ _ _ _ _ _ _ _ _ _ ?_
  clear hC0
  intro A B j8 j9 j10 j11 W1 k1 k2 k3 hC
  have HC := Lib.hid hC; clear hC
  obtain ⟨R, hRe⟩ : ∃ R, w.heap.size + 1 + 1 = R := ⟨_, rfl⟩
  have k3r : w.heap.size ≤ R := by omega
  rw [hRe] at k3 HC ⊢
  clear hRe
  go_wp2
  refine wp_loop_rounds 5 ?_
  rw [rounds_succ]
  go_upto_region 5 with (fail)
  refine rsub5 w _ A B R _ 0 (by decide) _ _ _ _ rfl rfl k2 k3 k1 HC.out _ _ _ _ _ _ _ _ _ _ _ _ _ _ _ _ _ _ _ _ _ _ _ _ _ ?_
  clear HC
  intro j16 j17 j18 j19 j20 j21 j22 j23 j24 W2 hC
  have HC := Lib.hid hC; clear hC
  go_wp2
  rw [rounds_succ]
  go_upto_region 5 with (fail)
  refine rsub5 w _ A B R _ 1 (by decide) _ _ _ _ rfl rfl k2 k3 k1 HC.out _ _ _ _ _ _ _ _ _ _ _ _ _ _ _ _ _ _ _ _ _ _ _ _ _ ?_
  clear HC
  intro j16 j17 j18 j19 j20 j21 j22 j23 j24 W3 hC
  have HC := Lib.hid hC; clear hC
  go_wp2
  rw [rounds_succ]
  go_upto_region 5 with (fail)
  refine rsub5 w _ A B R _ 2 (by decide) _ _ _ _ rfl rfl k2 k3 k1 HC.out _ _ _ _ _ _ _ _ _ _ _ _ _ _ _ _ _ _ _ _ _ _ _ _ _ ?_
  clear HC
  intro j16 j17 j18 j19 j20 j21 j22 j23 j24 W4 hC
  have HC := Lib.hid hC; clear hC
  go_wp2
  rw [rounds_succ]
  go_upto_region 5 with (fail)
  refine rsub5 w _ A B R _ 3 (by decide) _ _ _ _ rfl rfl k2 k3 k1 HC.out _ _ _ _ _ _ _ _ _ _ _ _ _ _ _ _ _ _ _ _ _ _ _ _ _ ?_
  clear HC
  intro j16 j17 j18 j19 j20 j21 j22 j23 j24 W5 hC
  have hb : W5.heap[A]? = some (.cells (coc (subM x y)) 28) := hC.blocks _ (List.mem_cons_self ..)
  have hr : W5.heap[R]? = some (.cells (coc ⟨0, 0, 0, 0⟩) 23) := hC.blocks (R, _) (by simp)
  have cA := Mild.cell_of_block hb
  have hB5 := hC.below
  have hz5 := hC.big
  clear hb hC
  obtain ⟨z, hzz⟩ : ∃ z, subM x y = z := ⟨_, rfl⟩
  rw [hzz] at cA
  have HZ := Lib.hid hzz; clear hzz
  go_wp2
  rw [rounds_succ]
  go_wp2_with (go_at_call 21; refine (of_any _ _ _ _ _).mono ?_; rintro e w6 ⟨rfl, hb6⟩; have hr6 : w6.heap[R]? = some (.cells (coc ⟨0, 0, 0, 0⟩) 23) := (by rw [hb6.block _ (Mild.lt_of_block hr)]; exact hr); have cR := Mild.cell_of_block hr6; have fR := Mild.free_of_block hr6)
  have hB6 : Below w.heap.size w w6 := hB5.trans (hb6.mono hz5)
  have hz6 := Nat.le_trans hz5 hb6.size
  exact bodyPost_ret (v := cov z) (by simp [results, Tryz.results10, go_sem, *]) rfl ⟨by rw [HZ.out], (((hB6.setCell k3r _).setCell k3r _).setCell k3r _).setCell k3r _⟩
end Go.Proofs.YtajccjbigcdkbaaGreatDoor
namespace Go.Proofs.YtajccjbigcdkbaaGreatDoor
open Go.ChangeShapes Go.WideShapes Go.ChangeAt Go.RowKit

set_option maxRecDepth 100000 in
set_option maxHeartbeats 4000000 in
theorem refat_any (x y : Co) (w : World) : Calls Tryz.prog 12 #[cov x, cov y] w fun e w' => e = .returned (.bool (atM x y)) ∧ Below w.heap.size w w' := by
  go_enter Tryz.func12, Tryz.ntmps12
  go_upto_region 1 with (fail)
  have hC0 : Mild.Bks w.heap.size w [(w.heap.size, .cells (coc x) 23), (w.heap.size + 1, .cells (coc y) 23), (w.heap.size, .cells (coc x) 23)] ((w.alloc (.cells (coc x) 23)).alloc (.cells (coc y) 23)) := by
    refine ⟨by (repeat' (first | (with_reducible exact Below.refl _ _) | (with_reducible assumption) | (with_reducible refine Below.alloc ?_ ?_ _) | (with_reducible refine Below.drew ?_) | (with_reducible refine bdn ?_ _) | (with_reducible refine Below.setCell ?_ ?_ _) | go_size)), by go_size, ?_⟩
    simp only [List.forall_mem_cons, List.not_mem_nil, false_imp_iff, implies_true, and_true]
    exact ⟨Mild.alloc_lt _ (Mild.alloc_at _ _), by have := Mild.alloc_at (w.alloc (.cells (coc x) 23)) (.cells (coc y) 23); rw [World.size_alloc] at this; exact this, Mild.alloc_lt _ (Mild.alloc_at _ _)⟩
  refine rat1 w _ w.heap.size (w.heap.size + 1) w.heap.size _ x y (by go_size) (by go_size) (by go_size) hC0 _ _ _ _ _ _ _ _ _ _ _ _ _ _ _ _ _ _ _ _ _ _ _ _ _ _ _ _ _ _ _ _ _ _ _ _ ?_
  clear hC0
  intro A B j7 j8 j9 j10 W1 k1 k2 k3 hC
  have hb := hC.blocks
  simp only [List.forall_mem_cons, List.not_mem_nil, false_imp_iff, implies_true, and_true] at hb
  have cA := Mild.cell_of_block hb.1
  have cB := Mild.cell_of_block hb.2.1
  have HB := Lib.hid hC.below
  clear hC hb k1 k2 k3
  rcases at_cases x y with ⟨g1, gg⟩ | ⟨g1, g2, gg⟩ | ⟨g1, g2, g3, gg⟩ | ⟨g1, g2, g3, g4, gg⟩ | ⟨g1, g2, g3, g4, gg⟩
  all_goals
    have hD := Lib.hid gg; clear gg
    go_wp2
    go_ret
    exact ⟨ret_bool hD.out.symm, HB.out⟩

set_option maxRecDepth 100000 in
set_option maxHeartbeats 4000000 in
theorem rsum5 (w0 W : World) (b off n cap R O k : Nat) (ro : Obj) (s c : Co) (hk : k < n) (hb0 : b < w0.heap.size) (hRO : R ≠ O) (hO : w0.heap.size ≤ O)
    (r1 : w0.cell? ⟨b, off + k * 4, none⟩ = some (.int .i64 c.a) ∧ w0.cell? ⟨b, off + k * 4 + 1, none⟩ = some (.int .i64 c.b) ∧ w0.cell? ⟨b, off + k * 4 + 2, none⟩ = some (.int .i64 c.c) ∧ w0.cell? ⟨b, off + k * 4 + 3, none⟩ = some (.int .i64 c.d))
    (hC : Mild.Bks w0.heap.size w0 [(R, ro), (O, .cells (coc s) 23)] W)
    (j1 j5 j6 j7 j8 j9 j10 j11 j12 j13 j14 j15 j16 j17 j18 : Value) (Q0 : Exit → Act → World → Prop)
    (h0 : ∀ j12 j13 j14 j15 j16 j17 W', Mild.Bks w0.heap.size w0 [(R, ro), (O, .cells (coc (addM s c)) 23)] W' → Q0 .normal { tmps := #[.slice (some ⟨b, off, none⟩) n cap, j1, .pointer (some ⟨R, 0, none⟩), .pointer (some ⟨O, 0, none⟩), .int .i64 k, j5, j6, j7, j8, j9, j10, j11, j12, j13, j14, j15, j16, j17, j18], defers := [] } W') :
    (navC [1, 1, 0, 1, 1, 1, 1, 0, 1] (Tryz.f18.body.getD .skip)).wp Tryz.prog Q0 { tmps := #[.slice (some ⟨b, off, none⟩) n cap, j1, .pointer (some ⟨R, 0, none⟩), .pointer (some ⟨O, 0, none⟩), .int .i64 k, j5, j6, j7, j8, j9, j10, j11, j12, j13, j14, j15, j16, j17, j18], defers := [] } W := by
  conv => arg 2; whnf
  have H0 := Lib.hid h0; clear h0
  have HR1 := Lib.hid r1; clear r1
  have hki : (k : Int) < n := by omega
  refine Mild.region_mild 6 [] (Mild.Bks w0.heap.size w0 [(R, ro), (O, .cells (coc s) 23)]) (by kernel_rfl) 19 (by kernel_rfl) rfl (by simp) Mild.Bks.closed hC (by simp) ?H
  apply Exists.intro
  refine ⟨?HW, ?HT⟩
  case HW =>
    intro W hW
    have hb := hW.blocks
    simp only [List.forall_mem_cons, List.not_mem_nil, false_imp_iff, implies_true, and_true] at hb
    have cO := Mild.cell_of_block hb.2
    have q1 := (hW.below.cell (p := ⟨b, _, none⟩) hb0).trans HR1.out.1
    have q2 := (hW.below.cell (p := ⟨b, _, none⟩) hb0).trans HR1.out.2.1
    have q3 := (hW.below.cell (p := ⟨b, _, none⟩) hb0).trans HR1.out.2.2.1
    have q4 := (hW.below.cell (p := ⟨b, _, none⟩) hb0).trans HR1.out.2.2.2
    clear hW hb
    simp only [List.take_succ_cons, List.take_zero]
    iterate 5 (apply Mild.walkM_q rfl; go_wp2; refine ⟨rfl, rfl, Below.refl _ _, ?_⟩)
    apply Mild.walkM_q rfl
    go_wp2_with (go_at_call 8; refine (refadd_any s c _).mono ?_; rintro e w1 ⟨rfl, hb⟩)
    refine ⟨rfl, rfl, hb, ?_⟩
    exact Mild.walkM_end rfl
  case HT =>
    intro F w2 hC _ _
    simp only [List.drop_succ_cons, List.drop_zero, Mild.putAll, List.foldl_cons, List.foldl_nil, Mild.ptrTo, Act.put, List.setIfInBounds_toArray, List.set_cons_zero, List.set_cons_succ]
    have hb := hC.blocks
    simp only [List.forall_mem_cons, List.not_mem_nil, false_imp_iff, implies_true, and_true] at hb
    obtain ⟨b1, b2⟩ := hb
    have cO := Mild.cell_of_block b2
    have fO := Mild.free_of_block b2
    have hB := hC.below
    have hz := hC.big
    clear hC
    go_wp2
    have hU2 := Joins.block_setCell (i := 3) (Joins.block_setCell (i := 2) (Joins.block_setCell (i := 1) (Joins.block_setCell (i := 0) b2 (.int .i64 (addM s c).a)) (.int .i64 (addM s c).b)) (.int .i64 (addM s c).c)) (.int .i64 (addM s c).d)
    refine H0.out _ _ _ _ _ _ _ ⟨(((hB.setCell hO _).setCell hO _).setCell hO _).setCell hO _, by simp [World.setCell]; omega, ?_⟩
    simp only [List.forall_mem_cons, List.not_mem_nil, false_imp_iff, implies_true, and_true]
    exact ⟨Mild.set_ne (Mild.set_ne (Mild.set_ne (Mild.set_ne b1 hRO) hRO) hRO) hRO, hU2⟩

set_option maxRecDepth 100000 in
set_option maxHeartbeats 4000000 in
theorem refsum_any (a : Option Addr) (n cap : Nat) (l : List Co) (hl : l.length = n) (hn : n ≤ 1000000) (w : World) (hrow : 0 < n → ∃ b off, a = some ⟨b, off, none⟩ ∧ b < w.heap.size ∧ Row4 w b off l) :
    Calls Tryz.prog 18 #[.slice a n cap] w fun e w' => e = .returned (cov (sumM l)) ∧ Below w.heap.size w w' := by
  have HR := Lib.hid hrow; clear hrow
  have HL := Lib.hid hl
  go_enter Tryz.func18, Tryz.ntmps18
  go_wp2
  go_loopw [4] (fun i wr => ∃ k : Nat, k ≤ n ∧ i = .int .i64 k ∧ Hid (Mild.Bks w.heap.size w [(w.heap.size, .cells (coc zeroM) 23), (w.heap.size + 1, .cells (coc (sumM (l.take k))) 23)] wr)) (fun i _ => n - (intOf i).toNat)
  case atStart =>
    refine ⟨0, Nat.zero_le _, rfl, Lib.hid ⟨by (repeat' (first | (with_reducible exact Below.refl _ _) | (with_reducible assumption) | (with_reducible refine Below.alloc ?_ ?_ _) | (with_reducible refine Below.drew ?_) | (with_reducible refine bdn ?_ _) | (with_reducible refine Below.setCell ?_ ?_ _) | go_size)), by go_size, ?_⟩⟩
    simp only [List.forall_mem_cons, List.not_mem_nil, false_imp_iff, implies_true, and_true]
    exact ⟨Mild.alloc_lt _ (Mild.alloc_at _ _), by have := Mild.alloc_at (w.alloc (.cells (coc zeroM) 23)) (.cells (coc zeroM) 23); rw [World.size_alloc] at this; exact this⟩
  case round =>
    obtain ⟨k, hk, rfl, hC⟩ := hrel
    by_cases hlt : k < n
    · have hq : (k : Int) < n := by omega
      obtain ⟨b, off, rfl, hb0, hrow⟩ := HR.out (by omega)
      have hkl : k < l.length := by rw [HL.out]; exact hlt
      have r := hrow k hkl
      have hrec := Lib.hid (sum_take l k hkl)
      have HRW := Lib.hid r; clear r hrow
      go_upto_region 5 with (fail)
      refine rsum5 w _ b off n cap w.heap.size (w.heap.size + 1) k _ _ _ hlt hb0 (by omega) (by omega) HRW.out hC.out _ _ _ _ _ _ _ _ _ _ _ _ _ _ _ _ ?_
      clear hC
      intro j12 j13 j14 j15 j16 j17 W1 hC
      rw [← hrec.out] at hC
      have HC := Lib.hid hC; clear hC
      go_wp2
      go_roundw
      case rel => exact ⟨k + 1, by omega, by go_num, HC⟩
      case measure => simp [intOf] <;> omega
    · obtain rfl : k = n := by omega
      have hq : ¬ (k : Int) < k := by omega
      have ht : l.take k = l := by rw [← HL.out]; exact List.take_length
      rw [ht] at hC
      have hBl := hC.out.below
      have hz := hC.out.big
      have hbs := hC.out.blocks
      simp only [List.forall_mem_cons, List.not_mem_nil, false_imp_iff, implies_true, and_true] at hbs
      obtain ⟨bR, bO⟩ := hbs
      have cO := Mild.cell_of_block bO
      have cR := Mild.cell_of_block bR
      have fR := Mild.free_of_block bR
      clear ht bR bO hC
      go_wp2
      exact bodyPost_ret (v := cov (sumM l)) (by simp [results, Tryz.results18, go_sem, *]) rfl ⟨rfl, by (repeat' (first | (with_reducible exact Below.refl _ _) | (with_reducible assumption) | (with_reducible refine Below.alloc ?_ ?_ _) | (with_reducible refine Below.drew ?_) | (with_reducible refine bdn ?_ _) | (with_reducible refine Below.setCell ?_ ?_ _) | go_size))⟩
set_option maxRecDepth 100000 in
set_option maxHeartbeats 4000000 in
theorem refplain_any (x : Co) (w : World) : Calls Tryz.prog 33 #[cov x] w fun e w' => e = .returned (.bool (plainB x)) ∧ Below w.heap.size w w' := by
  go_enter Tryz.func33, Tryz.ntmps33
  go_wp2_with (go_at_call 6; refine (numbers_any _ _).mono ?_; rintro e w1 ⟨rfl, hb⟩)
  have hz := hb.size
  simp only [World.size_alloc] at hz
  have hB1 : Below w.heap.size w w1 := bup (w := w) (by (repeat' (first | (with_reducible exact Below.refl _ _) | (with_reducible assumption) | (with_reducible refine Below.alloc ?_ ?_ _) | (with_reducible refine Below.drew ?_) | (with_reducible refine bdn ?_ _) | (with_reducible refine Below.setCell ?_ ?_ _) | go_size))) hb (by go_size)
  clear hb hz
  have hBz := hB1.size
  refine wp_loop_rounds 5 ?_
  rw [rounds_succ]
  rcases okN_cases x.a with ⟨g0, e0⟩ | ⟨g0, k0, e0⟩ | ⟨g0, k0, e0⟩
  · have hD := Lib.hid (show plainB x = false by simp [plainB, *]); clear e0
    go_wp2
    go_ret
    exact ⟨ret_bool hD.out.symm, by (repeat' (first | (with_reducible exact Below.refl _ _) | (with_reducible assumption) | (with_reducible refine Below.alloc ?_ ?_ _) | (with_reducible refine Below.drew ?_) | (with_reducible refine bdn ?_ _) | (with_reducible refine Below.setCell ?_ ?_ _) | go_size))⟩
  · have hD := Lib.hid (show plainB x = false by simp [plainB, *]); clear e0
    go_wp2
    go_ret
    exact ⟨ret_bool hD.out.symm, by (repeat' (first | (with_reducible exact Below.refl _ _) | (with_reducible assumption) | (with_reducible refine Below.alloc ?_ ?_ _) | (with_reducible refine Below.drew ?_) | (with_reducible refine bdn ?_ _) | (with_reducible refine Below.setCell ?_ ?_ _) | go_size))⟩
  · have hH0 := Lib.hid e0; clear e0
    go_wp2
    rw [rounds_succ]
    rcases okN_cases x.b with ⟨g1, e1⟩ | ⟨g1, k1, e1⟩ | ⟨g1, k1, e1⟩
    · have hD := Lib.hid (show plainB x = false by simp [plainB, *]); clear e1
      go_wp2
      go_ret
      exact ⟨ret_bool hD.out.symm, by (repeat' (first | (with_reducible exact Below.refl _ _) | (with_reducible assumption) | (with_reducible refine Below.alloc ?_ ?_ _) | (with_reducible refine Below.drew ?_) | (with_reducible refine bdn ?_ _) | (with_reducible refine Below.setCell ?_ ?_ _) | go_size))⟩
    · have hD := Lib.hid (show plainB x = false by simp [plainB, *]); clear e1
      go_wp2
      go_ret
      exact ⟨ret_bool hD.out.symm, by (repeat' (first | (with_reducible exact Below.refl _ _) | (with_reducible assumption) | (with_reducible refine Below.alloc ?_ ?_ _) | (with_reducible refine Below.drew ?_) | (with_reducible refine bdn ?_ _) | (with_reducible refine Below.setCell ?_ ?_ _) | go_size))⟩
    · have hH1 := Lib.hid e1; clear e1
      go_wp2
      rw [rounds_succ]
      rcases okN_cases x.c with ⟨g2, e2⟩ | ⟨g2, k2, e2⟩ | ⟨g2, k2, e2⟩
      · have hD := Lib.hid (show plainB x = false by simp [plainB, *]); clear e2
        go_wp2
        go_ret
        exact ⟨ret_bool hD.out.symm, by (repeat' (first | (with_reducible exact Below.refl _ _) | (with_reducible assumption) | (with_reducible refine Below.alloc ?_ ?_ _) | (with_reducible refine Below.drew ?_) | (with_reducible refine bdn ?_ _) | (with_reducible refine Below.setCell ?_ ?_ _) | go_size))⟩
      · have hD := Lib.hid (show plainB x = false by simp [plainB, *]); clear e2
        go_wp2
        go_ret
        exact ⟨ret_bool hD.out.symm, by (repeat' (first | (with_reducible exact Below.refl _ _) | (with_reducible assumption) | (with_reducible refine Below.alloc ?_ ?_ _) | (with_reducible refine Below.drew ?_) | (with_reducible refine bdn ?_ _) | (with_reducible refine Below.setCell ?_ ?_ _) | go_size))⟩
      · have hH2 := Lib.hid e2; clear e2
        go_wp2
        rw [rounds_succ]
        rcases okN_cases x.d with ⟨g3, e3⟩ | ⟨g3, k3, e3⟩ | ⟨g3, k3, e3⟩
        · have hD := Lib.hid (show plainB x = false by simp [plainB, *]); clear e3
          go_wp2
          go_ret
          exact ⟨ret_bool hD.out.symm, by (repeat' (first | (with_reducible exact Below.refl _ _) | (with_reducible assumption) | (with_reducible refine Below.alloc ?_ ?_ _) | (with_reducible refine Below.drew ?_) | (with_reducible refine bdn ?_ _) | (with_reducible refine Below.setCell ?_ ?_ _) | go_size))⟩
        · have hD := Lib.hid (show plainB x = false by simp [plainB, *]); clear e3
          go_wp2
          go_ret
          exact ⟨ret_bool hD.out.symm, by (repeat' (first | (with_reducible exact Below.refl _ _) | (with_reducible assumption) | (with_reducible refine Below.alloc ?_ ?_ _) | (with_reducible refine Below.drew ?_) | (with_reducible refine bdn ?_ _) | (with_reducible refine Below.setCell ?_ ?_ _) | go_size))⟩
        · have hH3 := Lib.hid e3; clear e3
          have hD := Lib.hid (show plainB x = true by simp [plainB, hH0.out, hH1.out, hH2.out, hH3.out])
          go_wp2
          rw [rounds_succ]
          go_wp2
          go_ret
          exact ⟨ret_bool hD.out.symm, by (repeat' (first | (with_reducible exact Below.refl _ _) | (with_reducible assumption) | (with_reducible refine Below.alloc ?_ ?_ _) | (with_reducible refine Below.drew ?_) | (with_reducible refine bdn ?_ _) | (with_reducible refine Below.setCell ?_ ?_ _) | go_size))⟩
end Go.Proofs.YtajccjbigcdkbaaGreatDoor
namespace Go.Proofs.YtajccjbigcdkbaaGreatDoor
open Go.ChangeShapes Go.WideShapes Go.ChangeAt Go.RowKit
theorem decimal_int (x : Int) (h0 : 0 ≤ x) (h1 : x ≤ 1099511627776) (w : World) : Calls Tryz.prog 30 #[.int .i64 x] w fun e w' => e = .returned (.string (dig x)) ∧ w' = w := by
  have := decimal_any x.toNat (by omega) w
  rwa [Int.toNat_of_nonneg h0] at this
theorem own_ne {W : World} {b s n A : Nat} {e t : TypeId} {v : Value} {xs : List Value} {cs : Array Value} (h : W.ownsRow b e s v n xs) (hA : W.heap[A]? = some (.cells cs t)) (hne : e ≠ t) : v.ownBlock ≠ some A := by
  rcases h.2 with ⟨rfl, _⟩ | ⟨g, cap, cur, rfl, _, hg, _⟩
  · simp [Value.ownBlock]
  · intro e
    simp only [Value.ownBlock, Option.some.injEq] at e
    subst e
    rw [hA] at hg
    cases hg
    exact hne rfl
structure RowN (w0 : World) (A : Nat) (xs : Array Value) (v : Value) (l : List ByteArray) (W : World) : Prop where
  below : Below w0.heap.size w0 W
  big : w0.heap.size < W.heap.size
  fa : W.heap[A]? = some (.cells xs 28)
  own : W.ownsRow w0.heap.size 9 1 v l.length (l.map Value.string)

set_option maxRecDepth 100000 in
set_option maxHeartbeats 2000000 in
theorem rcells5 (w0 W : World) (A : Nat) (xs : Array Value) (v : Value) (l : List ByteArray) (hl : l.length ≤ 100) (hC : RowN w0 A xs v l W) (i : Nat) (hi : i < 4) (x : Int) (hx : xs[i]? = some (.int .i64 x)) (h0x : 0 ≤ x) (h1x : x ≤ 1099511627776)
    (j0 j1 j2 j3 j4 j8 j9 j10 j11 j12 j13 j14 j15 j16 j17 j18 j19 j20 j21 j22 j23 : Value) (Q0 : Exit → Act → World → Prop)
    (h0 : ∀ j16 j17 j18 j19 j20 j21 j22 v' W', RowN w0 A xs v' (l ++ [dig x]) W' → Q0 .normal { tmps := #[j0, j1, j2, j3, j4, v', pt A 0, .int .i64 i, j8, j9, j10, j11, j12, j13, j14, j15, j16, j17, j18, j19, j20, j21, j22, j23], defers := [] } W') :
    (navC [1, 1, 0, 1, 1, 1, 1, 0, 1] (Tryz.f36.body.getD .skip)).wp Tryz.prog Q0 { tmps := #[j0, j1, j2, j3, j4, v, pt A 0, .int .i64 i, j8, j9, j10, j11, j12, j13, j14, j15, j16, j17, j18, j19, j20, j21, j22, j23], defers := [] } W := by
  conv => arg 2; whnf
  have H0 := Lib.hid h0; clear h0
  have cA := (Mild.cell_of_block hC.fa i).trans hx
  have hii : (i : Int) < 4 := by omega
  have HC := Lib.hid hC; clear hC
  obtain ⟨ti, hi9, hz0, hz1, hz2⟩ := info_parts info9
  go_wp2_with (first | (go_at_call 30; refine (decimal_int x h0x h1x _).mono ?_; rintro e w1 ⟨rfl, rfl⟩) | (at_builtin; go_loud (refine wpList_append_own _ rfl _ _ 25 rfl w0.heap.size 9 ti (.string ⟨#[]⟩) 1 16 Tryz.underlying25 hi9 hz0 hz1 hz2 rfl (by decide) _ _ _ rfl (HC.out.own.alloc _) ⟨w1.heap.size, 0, none⟩ 1 1 [.string (dig x)] rfl rfl ?c1 ?c2 ?c3 ?c4 ?c5 ?_)))
  case c1 =>
    intro j u hj
    match j, hj with
    | 0, hj => simp at hj; subst hj; simp [Addr.add, dig]
  case c2 => intro u hu; simp at hu; subst hu; rfl
  case c3 => unfold maxLen; omega
  case c4 => omega
  case c5 => have := HC.out.big; simp; omega
  · intro v' w2 hown' hgrow _
    have hlt := HC.out.own.lt
    have hbg := HC.out.big
    have hne := own_ne HC.out.own HC.out.fa (by decide)
    have hB2 : Below w0.heap.size w0 w2 := below_grown (HC.out.below.alloc (by omega) _) hgrow (by simp; omega) (fun k e => (hlt k e).1)
    have hfa : w2.heap[A]? = some (.cells xs 28) := by
      rw [hgrow.block A (by have := Mild.lt_of_block HC.out.fa; simp; omega) (fun e => hne e.symm)]
      exact Mild.alloc_lt _ HC.out.fa
    have hG : RowN w0 A xs v' (l ++ [dig x]) w2 := ⟨hB2, by have := hgrow.size; simp at this; omega, hfa, by simpa using hown'⟩
    go_wp2
    exact H0.out _ _ _ _ _ _ _ _ _ hG

set_option maxRecDepth 100000 in
set_option maxHeartbeats 2000000 in
theorem cells_any (name : ByteArray) (c : Co) (w : World) (hc : plainB c = true) :
    Calls Tryz.prog 36 #[.string name, cov c] w fun e w' => ∃ v, e = .returned v ∧ w'.ownsRow w.heap.size 9 1 v 5 ((rowM name c).map Value.string) ∧ Below w.heap.size w w' := by
  have hp := Lib.hid (plain_in hc); clear hc
  go_enter Tryz.func36, Tryz.ntmps36
  go_wp2_with (go_at_call 6; refine (numbers_any _ _).mono ?_; rintro e w1 ⟨rfl, hb⟩)
  have hz := hb.size
  simp only [World.size_alloc] at hz
  have hB1 : Below w.heap.size w w1 := bup (w := w) (by (repeat' (first | (with_reducible exact Below.refl _ _) | (with_reducible assumption) | (with_reducible refine Below.alloc ?_ ?_ _) | (with_reducible refine Below.drew ?_) | (with_reducible refine bdn ?_ _) | (with_reducible refine Below.setCell ?_ ?_ _) | go_size))) hb (by go_size)
  have hO := own_below (by have := own_one (w.alloc (.cells (coc c) 23)) #[.string name] 1 (by unfold maxLen; omega) rfl w.heap.size 9 (by simp); rw [World.size_alloc] at this; exact this) hb
  have hC : RowN w w1.heap.size (coc c) (.slice (some ⟨w.heap.size + 1, 0, none⟩) 1 1) [name] (w1.alloc (.cells (coc c) 28)) :=
    ⟨hB1.alloc (by omega) _, by simp; omega, Mild.alloc_at _ _, hO.alloc _⟩
  clear hb hz hB1 hO
  have HC := Lib.hid hC; clear hC
  refine wp_loop_rounds 5 ?_
  rw [rounds_succ]
  go_upto_region 5 with (fail)
  refine rcells5 w _ w1.heap.size (coc c) _ _ (by simp) HC.out 0 (by omega) c.a rfl hp.out.1.1 hp.out.1.2 _ _ _ _ _ _ _ _ _ _ _ _ _ _ _ _ _ _ _ _ _ _ ?_
  clear HC
  intro j16 j17 j18 j19 j20 j21 j22 v' W2 hC
  have HC := Lib.hid hC; clear hC
  go_wp2
  rw [rounds_succ]
  go_upto_region 5 with (fail)
  refine rcells5 w _ w1.heap.size (coc c) _ _ (by simp) HC.out 1 (by omega) c.b rfl hp.out.2.1.1 hp.out.2.1.2 _ _ _ _ _ _ _ _ _ _ _ _ _ _ _ _ _ _ _ _ _ _ ?_
  clear HC
  intro j16 j17 j18 j19 j20 j21 j22 v' W2 hC
  have HC := Lib.hid hC; clear hC
  go_wp2
  rw [rounds_succ]
  go_upto_region 5 with (fail)
  refine rcells5 w _ w1.heap.size (coc c) _ _ (by simp) HC.out 2 (by omega) c.c rfl hp.out.2.2.1.1 hp.out.2.2.1.2 _ _ _ _ _ _ _ _ _ _ _ _ _ _ _ _ _ _ _ _ _ _ ?_
  clear HC
  intro j16 j17 j18 j19 j20 j21 j22 v' W2 hC
  have HC := Lib.hid hC; clear hC
  go_wp2
  rw [rounds_succ]
  go_upto_region 5 with (fail)
  refine rcells5 w _ w1.heap.size (coc c) _ _ (by simp) HC.out 3 (by omega) c.d rfl hp.out.2.2.2.1 hp.out.2.2.2.2 _ _ _ _ _ _ _ _ _ _ _ _ _ _ _ _ _ _ _ _ _ _ ?_
  clear HC
  intro j16 j17 j18 j19 j20 j21 j22 v' W2 hC
  have HC := Lib.hid hC; clear hC
  go_wp2
  rw [rounds_succ]
  go_wp2
  exact bodyPost_ret (v := v') (by simp [results, Tryz.results36, go_sem, *]) rfl ⟨v', rfl, HC.out.own, HC.out.below⟩
end Go.Proofs.YtajccjbigcdkbaaGreatDoor
namespace Go.Proofs.YtajccjbigcdkbaaGreatDoor
open Go.ChangeShapes Go.WideShapes Go.ChangeAt Go.RowKit
theorem word_any (i : Nat) (hi : i < 4) (w : World) : Calls Tryz.prog 29 #[.int .i64 i] w fun e w' => e = .returned (.string (wd i)) ∧ Below w.heap.size w w' := by
  match i, hi with
  | 0, _ => exact word0 w
  | 1, _ => exact word1 w
  | 2, _ => exact word2 w
  | 3, _ => exact word3 w
theorem wd_size (i : Nat) (hi : i < 4) : (wd i).size ≤ 7 := by
  match i, hi with
  | 0, _ => decide
  | 1, _ => decide
  | 2, _ => decide
  | 3, _ => decide
theorem dig_few {x : Int} (h0 : 0 ≤ x) (h1 : x ≤ 1099511627776) : (dig x).size ≤ 1000 := dig_size ⟨by omega, by omega⟩
/-- The text after a round. -/
def addT (o : ByteArray) (i : Nat) (x : Int) : ByteArray := ((o ++ wd i) ++ ⟨#[32]⟩) ++ dig x

set_option maxRecDepth 100000 in
set_option maxHeartbeats 4000000 in
theorem rtext7 (w0 W : World) (A : Nat) (xs : Array Value) (o : ByteArray) (ho : o.size ≤ 100000) (i : Nat) (hi : i < 4) (x : Int) (hx : xs[i]? = some (.int .i64 x)) (h0x : 0 ≤ x) (h1x : x ≤ 1099511627776) (hC : Mild.Bks w0.heap.size w0 [(A, .cells xs 28)] W)
    (j0 j1 j2 j6 j7 j8 j9 j10 j11 j12 j13 j14 j15 j16 j17 j18 j19 j20 j21 j22 j23 j24 j25 j26 : Value) (Q0 : Exit → Act → World → Prop)
    (h0 : ∀ j16 j17 j18 j19 j20 j21 j22 j23 j24 j25 W', Mild.Bks w0.heap.size w0 [(A, .cells xs 28)] W' → Q0 .normal { tmps := #[j0, j1, j2, pt A 0, .string (addT o i x), .int .i64 i, j6, j7, j8, j9, j10, j11, j12, j13, j14, j15, j16, j17, j18, j19, j20, j21, j22, j23, j24, j25, j26], defers := [] } W') :
    (navC [1, 1, 0, 1, 1, 1, 1, 0, 1, 1] (Tryz.f14.body.getD .skip)).wp Tryz.prog Q0 { tmps := #[j0, j1, j2, pt A 0, .string o, .int .i64 i, j6, j7, j8, j9, j10, j11, j12, j13, j14, j15, j16, j17, j18, j19, j20, j21, j22, j23, j24, j25, j26], defers := [] } W := by
  conv => arg 2; whnf
  have H0 := Lib.hid h0; clear h0
  have hws := wd_size i hi
  have hds := dig_few h0x h1x
  have HW2 := Lib.hid (word_any i hi)
  have hs1 : (o ++ wd i).size = o.size + (wd i).size := ByteArray.size_append ..
  have hs2 : ((o ++ wd i) ++ ⟨#[32]⟩ : ByteArray).size = o.size + (wd i).size + 1 := by rw [ByteArray.size_append, hs1]; rfl
  have hz1 : ¬ 9223372036854775807 < o.size + (wd i).size := by omega
  have hz2 : ¬ 9223372036854775807 < o.size + (wd i).size + 1 := by omega
  have hz3 : ¬ 9223372036854775807 < o.size + (wd i).size + 1 + (dig x).size := by omega
  have hii : (i : Int) < 4 := by omega
  clear hws hds ho
  refine Mild.region_mild 10 [] (Mild.Bks w0.heap.size w0 [(A, .cells xs 28)]) (by kernel_rfl) 27 (by kernel_rfl) rfl (by simp) Mild.Bks.closed hC (by simp) ?H
  apply Exists.intro
  refine ⟨?HW, ?HT⟩
  case HW =>
    intro W hW
    have hb := hW.blocks
    simp only [List.forall_mem_cons, List.not_mem_nil, false_imp_iff, implies_true, and_true] at hb
    have cA := (Mild.cell_of_block hb i).trans hx
    clear hW hb
    simp only [List.take_succ_cons, List.take_zero]
    iterate 2 (apply Mild.walkM_q rfl; go_wp2; refine ⟨rfl, rfl, Below.refl _ _, ?_⟩)
    apply Mild.walkM_q rfl
    go_wp2_with (go_at_call 29; refine (HW2.out _).mono ?_; rintro e w1 ⟨rfl, hb⟩)
    refine ⟨rfl, rfl, hb, ?_⟩
    iterate 5 (apply Mild.walkM_q rfl; go_wp2; refine ⟨rfl, rfl, Below.refl _ _, ?_⟩)
    apply Mild.walkM_q rfl
    go_wp2_with (go_at_call 30; refine (decimal_int x h0x h1x _).mono ?_; rintro e w1 ⟨rfl, rfl⟩)
    refine ⟨rfl, rfl, Below.refl _ _, ?_⟩
    apply Mild.walkM_q rfl
    go_wp2
    refine ⟨rfl, rfl, Below.refl _ _, ?_⟩
    exact Mild.walkM_end rfl
  case HT =>
    intro F w2 hC2 _ _
    simp only [List.drop_succ_cons, List.drop_zero, Mild.putAll, List.foldl_cons, List.foldl_nil, Mild.ptrTo, Act.put, List.setIfInBounds_toArray, List.set_cons_zero, List.set_cons_succ]
    have HC2 := Lib.hid hC2; clear hC2
    go_wp2
    exact H0.out _ _ _ _ _ _ _ _ _ _ _ HC2.out
theorem addT_size {o : ByteArray} {i : Nat} (hi : i < 4) {x : Int} (h0 : 0 ≤ x) (h1 : x ≤ 1099511627776) : (addT o i x).size ≤ o.size + 1008 := by
  have := wd_size i hi
  have := dig_few h0 h1
  unfold addT
  rw [ByteArray.size_append, ByteArray.size_append, ByteArray.size_append]
  show o.size + (wd i).size + 1 + _ ≤ _
  omega
def commaB : ByteArray := ⟨#[44, 32]⟩
theorem text_add (c : Co) : addT (addT (addT (addT ⟨#[]⟩ 0 c.a ++ commaB) 1 c.b ++ commaB) 2 c.c ++ commaB) 3 c.d = textM c := by
  refine bytes_inj ?_
  rw [text_data, tx_data, tx_data, tx_data, tx_data]
  simp [addT, commaB, ByteArray.data_append, dig]

set_option maxRecDepth 100000 in
set_option maxHeartbeats 4000000 in
theorem reftext_any (c : Co) (w : World) (hc : plainB c = true) : Calls Tryz.prog 14 #[cov c] w fun e w' => e = .returned (.string (textM c)) ∧ Below w.heap.size w w' := by
  have hp := Lib.hid (plain_in hc); clear hc
  have HT := Lib.hid (text_add c)
  go_enter Tryz.func14, Tryz.ntmps14
  go_wp2_with (go_at_call 6; refine (numbers_any _ _).mono ?_; rintro e w1 ⟨rfl, hb⟩)
  have hz := hb.size
  simp only [World.size_alloc] at hz
  have hB1 : Below w.heap.size w w1 := bup (w := w) (by (repeat' (first | (with_reducible exact Below.refl _ _) | (with_reducible assumption) | (with_reducible refine Below.alloc ?_ ?_ _) | (with_reducible refine Below.drew ?_) | (with_reducible refine bdn ?_ _) | (with_reducible refine Below.setCell ?_ ?_ _) | go_size))) hb (by go_size)
  have hC : Mild.Bks w.heap.size w [(w1.heap.size, .cells (coc c) 28)] (w1.alloc (.cells (coc c) 28)) := by
    refine ⟨hB1.alloc (by omega) _, by simp; omega, ?_⟩
    simp only [List.forall_mem_cons, List.not_mem_nil, false_imp_iff, implies_true, and_true]
    exact Mild.alloc_at _ _
  clear hb hz hB1
  have HC := Lib.hid hC; clear hC
  refine wp_loop_rounds 5 ?_
  rw [rounds_succ]
  go_upto_region 7 with (fail)
  refine rtext7 w _ w1.heap.size (coc c) ⟨#[]⟩ (by decide) 0 (by omega) c.a rfl hp.out.1.1 hp.out.1.2 HC.out _ _ _ _ _ _ _ _ _ _ _ _ _ _ _ _ _ _ _ _ _ _ _ _ _ ?_
  clear HC
  intro j16 j17 j18 j19 j20 j21 j22 j23 j24 j25 W2 hC
  have HC := Lib.hid hC; clear hC
  have s0 := addT_size (o := ⟨#[]⟩) (i := 0) (by decide) hp.out.1.1 hp.out.1.2
  obtain ⟨o0, e0⟩ : ∃ o, addT ⟨#[]⟩ 0 c.a = o := ⟨_, rfl⟩
  have E0 := Lib.hid e0
  rw [e0] at s0 ⊢
  clear e0
  have s0' : o0.size ≤ 1008 := by have e : (⟨#[]⟩ : ByteArray).size = 0 := rfl; omega
  have z0 : ¬ 9223372036854775807 < o0.size + 2 := by omega
  have y0 : (o0 ++ commaB).size ≤ 1010 := by rw [ByteArray.size_append]; show o0.size + 2 ≤ _; omega
  clear s0
  go_wp2
  rw [rounds_succ]
  go_upto_region 7 with (fail)
  refine rtext7 w _ w1.heap.size (coc c) (o0 ++ commaB) (by omega) 1 (by omega) c.b rfl hp.out.2.1.1 hp.out.2.1.2 HC.out _ _ _ _ _ _ _ _ _ _ _ _ _ _ _ _ _ _ _ _ _ _ _ _ _ ?_
  clear HC
  intro j16 j17 j18 j19 j20 j21 j22 j23 j24 j25 W3 hC
  have HC := Lib.hid hC; clear hC
  have s1 := addT_size (o := o0 ++ commaB) (i := 1) (by decide) hp.out.2.1.1 hp.out.2.1.2
  obtain ⟨o1, e1⟩ : ∃ o, addT (o0 ++ commaB) 1 c.b = o := ⟨_, rfl⟩
  have E1 := Lib.hid e1
  rw [e1] at s1 ⊢
  clear e1
  have z1 : ¬ 9223372036854775807 < o1.size + 2 := by omega
  have y1 : (o1 ++ commaB).size ≤ 2020 := by rw [ByteArray.size_append]; show o1.size + 2 ≤ _; omega
  clear s1 y0 z0 s0'
  go_wp2
  rw [rounds_succ]
  go_upto_region 7 with (fail)
  refine rtext7 w _ w1.heap.size (coc c) (o1 ++ commaB) (by omega) 2 (by omega) c.c rfl hp.out.2.2.1.1 hp.out.2.2.1.2 HC.out _ _ _ _ _ _ _ _ _ _ _ _ _ _ _ _ _ _ _ _ _ _ _ _ _ ?_
  clear HC
  intro j16 j17 j18 j19 j20 j21 j22 j23 j24 j25 W4 hC
  have HC := Lib.hid hC; clear hC
  have s2 := addT_size (o := o1 ++ commaB) (i := 2) (by decide) hp.out.2.2.1.1 hp.out.2.2.1.2
  obtain ⟨o2, e2⟩ : ∃ o, addT (o1 ++ commaB) 2 c.c = o := ⟨_, rfl⟩
  have E2 := Lib.hid e2
  rw [e2] at s2 ⊢
  clear e2
  have z2 : ¬ 9223372036854775807 < o2.size + 2 := by omega
  have y2 : (o2 ++ commaB).size ≤ 4000 := by rw [ByteArray.size_append]; show o2.size + 2 ≤ _; omega
  clear s2 y1 z1
  go_wp2
  rw [rounds_succ]
  go_upto_region 7 with (fail)
  refine rtext7 w _ w1.heap.size (coc c) (o2 ++ commaB) (by omega) 3 (by omega) c.d rfl hp.out.2.2.2.1 hp.out.2.2.2.2 HC.out _ _ _ _ _ _ _ _ _ _ _ _ _ _ _ _ _ _ _ _ _ _ _ _ _ ?_
  clear HC
  intro j16 j17 j18 j19 j20 j21 j22 j23 j24 j25 W5 hC
  have HC := Lib.hid hC; clear hC
  obtain ⟨o3, e3⟩ : ∃ o, addT (o2 ++ commaB) 3 c.d = o := ⟨_, rfl⟩
  have hfin : o3 = textM c := by rw [← e3, ← E2.out, ← E1.out, ← E0.out]; exact HT.out
  rw [e3, hfin]
  clear e3 hfin E0 E1 E2 z2 y2
  go_wp2
  rw [rounds_succ]
  go_wp2
  exact bodyPost_ret (v := .string (textM c)) (by simp [results, Tryz.results14, go_sem, *]) rfl ⟨rfl, HC.out.below⟩
end Go.Proofs.YtajccjbigcdkbaaGreatDoor
namespace Go.Proofs.YtajccjbigcdkbaaGreatDoor
open Go.ChangeShapes Go.WideShapes Go.ChangeAt Go.RowKit

set_option maxRecDepth 100000 in
set_option maxHeartbeats 4000000 in
theorem pin_val (W : World) (s : ByteArray) (hz : s.size < 4294967281) (k n v : Nat) (hkn : k + n ≤ s.size) (hn : n ≤ 13) (V : Nat → Nat) (hv0 : V 0 = 0) (hvn : V n = v) (hV : ∀ j, j < n → ∃ b d, s.data.toList[k + j]? = some b ∧ b.toNat = 48 + d ∧ d ≤ 9 ∧ V (j + 1) = 10 * V j + d) (hB : ∀ j, j ≤ n → V j ≤ 10000000000000)
    (j1 j2 j3 j4 j9 j10 j11 j12 j13 j14 j15 j16 j17 j18 j19 j20 j21 j22 j23 j24 j25 j26 j27 j28 j29 j30 j31 j32 j33 j34 j35 j36 j37 j38 j39 j40 j41 j42 j43 j44 j45 j46 j47 j48 j49 j50 j51 j52 j53 j54 j55 j56 j57 j58 j59 j60 j61 j62 j63 j64 j65 j66 j67 j68 j69 j70 j71 j72 : Value) (Q0 : Exit → Act → World → Prop)
    (h0 : ∀ j8 j32 j33 j34 j35 j36 j37 j38 j39 j40 j41 j42 j43 j44 j45 j46, Q0 .normal { tmps := #[.string s, j1, j2, j3, j4, .int .i64 k, .int .i64 n, .int .i64 v, j8, j9, j10, j11, j12, j13, j14, j15, j16, j17, j18, j19, j20, j21, j22, j23, j24, j25, j26, j27, j28, j29, j30, j31, j32, j33, j34, j35, j36, j37, j38, j39, j40, j41, j42, j43, j44, j45, j46, j47, j48, j49, j50, j51, j52, j53, j54, j55, j56, j57, j58, j59, j60, j61, j62, j63, j64, j65, j66, j67, j68, j69, j70, j71, j72], defers := [] } W) :
    (navC [1, 1, 0, 1, 1, 1, 1, 0, 1, 1, 1, 1, 0, 1] (Tryz.f16.body.getD .skip)).wp Tryz.prog Q0 { tmps := #[.string s, j1, j2, j3, j4, .int .i64 k, .int .i64 n, .int .i64 0, .int .i64 k, j9, j10, j11, j12, j13, j14, j15, j16, j17, j18, j19, j20, j21, j22, j23, j24, j25, j26, j27, j28, j29, j30, j31, j32, j33, j34, j35, j36, j37, j38, j39, j40, j41, j42, j43, j44, j45, j46, j47, j48, j49, j50, j51, j52, j53, j54, j55, j56, j57, j58, j59, j60, j61, j62, j63, j64, j65, j66, j67, j68, j69, j70, j71, j72], defers := [] } W := by
  conv => arg 2; whnf
  have H0 := Lib.hid h0; clear h0
  have HV := Lib.hid hV; clear hV
  have HB := Lib.hid hB; clear hB
  have HE := Lib.hid (And.intro hv0 hvn); clear hv0 hvn
  have hkn2 := hkn
  go_wp2
  go_loopw [7, 8] (fun t7 t8 wr => ∃ j m u : Nat, j ≤ n ∧ m = k + j ∧ Hid (V j = u) ∧ t7 = .int .i64 u ∧ t8 = .int .i64 m ∧ wr = W) (fun _ i _ => k + n - (intOf i).toNat)
  case atStart => exact ⟨0, k, 0, Nat.zero_le _, rfl, Lib.hid HE.out.1, rfl, rfl, rfl⟩
  case round =>
    obtain ⟨j, m, u, hj, hm, hu, rfl, rfl, rfl⟩ := hrel
    by_cases hlt : j < n
    · obtain ⟨b, d, hb, hd, hd9, hnext⟩ := HV.out j hlt
      have hub := HB.out j hj
      rw [hu.out] at hub hnext
      rw [← hm] at hb
      have hms : m < s.size := by omega
      have hmi : (m : Int) < s.size := by omega
      have hq : (m : Int) < (k : Int) + n := by omega
      have hbn := byte_nat hms hb
      rw [hd] at hbn
      have hui : (u : Int) ≤ 10000000000000 := by omega
      have hdi : (d : Int) ≤ 9 := by omega
      clear hb hd
      have HM := Lib.hid hm; clear hm
      have HN := Lib.hid hnext; clear hnext
      go_wp2
      go_roundw
      case rel => exact ⟨j + 1, m + 1, 10 * u + d, by omega, by have := HM.out; omega, Lib.hid HN.out, by go_num, by go_num, trivial⟩
      case measure => (have := HM.out; simp [intOf] <;> omega)
    · obtain rfl : j = n := by omega
      have hq : ¬ (m : Int) < (k : Int) + j := by omega
      obtain rfl : u = v := by rw [← hu.out, HE.out.2]
      go_wp2
      exact H0.out _ _ _ _ _ _ _ _ _ _ _ _ _ _ _ _
end Go.Proofs.YtajccjbigcdkbaaGreatDoor
