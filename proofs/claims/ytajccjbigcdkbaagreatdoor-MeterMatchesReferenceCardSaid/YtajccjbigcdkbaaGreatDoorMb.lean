/- The walk of each: a round. -/
import Derived.Test.YtajccjbigcdkbaaGreatDoorMa
-- USEBDN
set_option linter.unusedSimpArgs false
set_option linter.unusedVariables false
namespace Go.Proofs.YtajccjbigcdkbaaGreatDoor
open Go.ChangeShapes Go.WideShapes Go.ChangeAt Go.RowKit
abbrev coc (c : Co) : Array Value := #[.int .i64 c.a, .int .i64 c.b, .int .i64 c.c, .int .i64 c.d]
abbrev ptc (b : Nat) : Array Value := #[pt b 0, pt b 1, pt b 2, pt b 3]
theorem ptc_at (b i : Nat) (h : i < 4) : (ptc b)[i]? = some (pt b i) := by
  match i, h with
  | 0, _ => rfl
  | 1, _ => rfl
  | 2, _ => rfl
  | 3, _ => rfl

theorem each5 (g : Nat) (op : Int → Int → Int) (hcall : ∀ x y W, Calls Tryz.prog g #[.int .i64 x, .int .i64 y] W fun e W' => e = .returned (.int .i64 (op x y)) ∧ W = W')
    (eg : ∀ args w, (callFunc g args).run Tryz.prog w = .ok (.enter g args) w) (A B L i : Nat) (hi : i < 4) (xs ys : Array Value) (x y : Int) (hx : xs[i]? = some (.int .i64 x)) (hy : ys[i]? = some (.int .i64 y))
    (w0 W : World) (R : Nat) (ro : Obj) (hC : Mild.Bks w0.heap.size w0 [(A, .cells xs 23), (B, .cells ys 23), (L, .cells (ptc B) 46), (R, ro)] W) (hAB : B ≠ A) (hAL : L ≠ A) (hAR : R ≠ A) (hA : w0.heap.size ≤ A)
    (j0 j1 j10 j11 j13 j14 j15 j16 j17 j18 j19 j20 j21 j22 j23 j24 j25 j26 j27 j28 j29 : Value) (Q0 : Exit → Act → World → Prop)
    (h0 : ∀ j16 j17 j18 j19 j20 j21 j22 j23 j24 j25 j26 j27 W', Mild.Bks w0.heap.size w0 [(A, .cells (xs.setIfInBounds i (.int .i64 (op x y))) 23), (B, .cells ys 23), (L, .cells (ptc B) 46), (R, ro)] W' →
      Q0 .normal { tmps := #[j0, j1, .func (.func g) #[] #[], pt A 0, pt B 0, undef, pt R 0, pt L 0, .int .i64 i, pt A i, j10, j11, .int .i64 i, j13, j14, j15, j16, j17, j18, j19, j20, j21, j22, j23, j24, j25, j26, j27, j28, j29], defers := [] } W') :
    (navC [1, 1, 0, 1, 1, 1, 1, 1, 0, 1, 1] (Tryz.f22.body.getD .skip)).wp Tryz.prog Q0 { tmps := #[j0, j1, .func (.func g) #[] #[], pt A 0, pt B 0, undef, pt R 0, pt L 0, .int .i64 i, pt A i, j10, j11, .int .i64 i, j13, j14, j15, j16, j17, j18, j19, j20, j21, j22, j23, j24, j25, j26, j27, j28, j29], defers := [] } W := by
  conv => arg 2; whnf
  refine Mild.region_mild 12 [] (Mild.Bks w0.heap.size w0 [(A, .cells xs 23), (B, .cells ys 23), (L, .cells (ptc B) 46), (R, ro)]) (by kernel_rfl) 30 (by kernel_rfl) rfl (by simp) Mild.Bks.closed hC (by simp) ?H
  apply Exists.intro
  refine ⟨?HW, ?HT⟩
  case HW =>
    intro W hW
    have hb := hW.blocks
    simp only [List.forall_mem_cons, List.not_mem_nil, false_imp_iff, implies_true, and_true] at hb
    obtain ⟨b1, b2, b3, b4⟩ := hb
    have cA := (Mild.cell_of_block b1 i).trans hx
    have cB := (Mild.cell_of_block b2 i).trans hy
    have cL := (Mild.cell_of_block b3 i).trans (ptc_at B i hi)
    clear hW b1 b2 b3 b4
    simp only [List.take_succ_cons, List.take_zero]
    iterate 10 (apply Mild.walkM_q rfl; go_wp2; refine ⟨rfl, rfl, Below.refl _ _, ?_⟩)
    apply Mild.walkM_q rfl
    go_wp2_with (go_at_fn g; refine (hcall _ _ _).mono ?_; rintro e w1 ⟨rfl, rfl⟩)
    refine ⟨rfl, rfl, Below.refl _ _, ?_⟩
    apply Mild.walkM_q rfl
    go_wp2
    refine ⟨rfl, rfl, Below.refl _ _, ?_⟩
    exact Mild.walkM_end rfl
  case HT =>
    intro F w2 hC _ _
    simp only [List.drop_succ_cons, List.drop_zero, Mild.putAll, List.foldl_cons, List.foldl_nil, Mild.ptrTo, Act.put, List.setIfInBounds_toArray, List.set_cons_zero, List.set_cons_succ]
    have hb := hC.blocks
    simp only [List.forall_mem_cons, List.not_mem_nil, false_imp_iff, implies_true, and_true] at hb
    obtain ⟨b1, b2, b3, b4⟩ := hb
    have cA := (Mild.cell_of_block b1 i).trans hx
    have fA := Mild.free_of_block b1
    go_wp2
    refine ⟨hC.below.setCell hA _, by simp [World.setCell]; exact hC.big, ?_⟩
    simp only [List.forall_mem_cons, List.not_mem_nil, false_imp_iff, implies_true, and_true]
    exact ⟨Joins.block_setCell b1 _, Mild.set_ne b2 hAB, Mild.set_ne b3 hAL, Mild.set_ne b4 hAR⟩

theorem ixp0 (b : Nat) (w : World) : (Instr.index 46 (ptsv b) (.int .i64 0)).run Tryz.prog w = .ok (pt b 0) w := by kernel_rfl
theorem ixp1 (b : Nat) (w : World) : (Instr.index 46 (ptsv b) (.int .i64 1)).run Tryz.prog w = .ok (pt b 1) w := by kernel_rfl
theorem ixp2 (b : Nat) (w : World) : (Instr.index 46 (ptsv b) (.int .i64 2)).run Tryz.prog w = .ok (pt b 2) w := by kernel_rfl
theorem ixp3 (b : Nat) (w : World) : (Instr.index 46 (ptsv b) (.int .i64 3)).run Tryz.prog w = .ok (pt b 3) w := by kernel_rfl
set_option maxRecDepth 20000 in
theorem each_any (g : Nat) (op : Int → Int → Int) (hcall : ∀ x y W, Calls Tryz.prog g #[.int .i64 x, .int .i64 y] W fun e W' => e = .returned (.int .i64 (op x y)) ∧ W = W')
    (eg : ∀ args w, (callFunc g args).run Tryz.prog w = .ok (.enter g args) w) (x y : Co) (w : World) :
    Calls Tryz.prog 22 #[cov x, cov y, .func (.func g) #[] #[]] w fun e w' => e = .returned (cov ⟨op x.a y.a, op x.b y.b, op x.c y.c, op x.d y.d⟩) ∧ Below w.heap.size w w' := by
  go_enter Tryz.func22, Tryz.ntmps22
  go_wp2_with (go_at_call 25; refine (parts_any _ _).mono ?_; rintro e w1 ⟨rfl, hb⟩)
  rename_i Q1 w2 hb2 K1 hK1
  have hz2 := hb2.size
  have hz := hb.size
  simp only [World.size_alloc] at hz2 hz
  have hB2 : Below w.heap.size w w2 := bup (w := w) (by (repeat' (first | (with_reducible exact Below.refl _ _) | (with_reducible assumption) | (with_reducible refine Below.alloc ?_ ?_ _) | (with_reducible refine Below.drew ?_) | (with_reducible refine bdn ?_ _) | (with_reducible refine Below.setCell ?_ ?_ _) | go_size))) hb2 (by go_size)
  have hB1 : Below w.heap.size w w1 := bup (w := w) (hB2.alloc (by omega) _) hb (by go_size)
  have bA : w1.heap[w.heap.size]? = some (.cells (coc x) 23) := by
    rw [hb.block _ (by go_size)]; exact Mild.alloc_lt _ (by rw [hb2.block _ (by go_size)]; exact Mild.alloc_lt _ (Mild.alloc_lt _ (Mild.alloc_at _ _)))
  have bB : w1.heap[w.heap.size + 1]? = some (.cells (coc y) 23) := by
    rw [hb.block _ (by go_size)]; exact Mild.alloc_lt _ (by rw [hb2.block _ (by go_size)]; exact Mild.alloc_lt _ (by have := Mild.alloc_at (w.alloc (.cells (coc x) 23)) (.cells (coc y) 23); rw [World.size_alloc] at this; exact this))
  have bR : w1.heap[w.heap.size + 1 + 1]? = some (.cells (coc ⟨0, 0, 0, 0⟩) 23) := by
    rw [hb.block _ (by go_size)]; exact Mild.alloc_lt _ (by rw [hb2.block _ (by go_size)]; have := Mild.alloc_at ((w.alloc (.cells (coc x) 23)).alloc (.cells (coc y) 23)) (.cells (coc ⟨0, 0, 0, 0⟩) 23); rw [World.size_alloc, World.size_alloc] at this; exact this)
  have bL : w1.heap[w2.heap.size]? = some (.cells (ptc (w.heap.size + 1)) 46) := by
    rw [hb.block _ (by go_size)]; exact Mild.alloc_at _ _
  have hC : Mild.Bks w.heap.size w [(w.heap.size, .cells (coc x) 23), (w.heap.size + 1, .cells (coc y) 23), (w2.heap.size, .cells (ptc (w.heap.size + 1)) 46), (w.heap.size + 1 + 1, .cells (coc ⟨0, 0, 0, 0⟩) 23)] w1 :=
    ⟨hB1, by omega, by simp only [List.forall_mem_cons, List.not_mem_nil, false_imp_iff, implies_true, and_true]; exact ⟨bA, bB, bL, bR⟩⟩
  have hAL : w2.heap.size ≠ w.heap.size := by omega
  clear bA bB bR bL hb hb2 hz hz2 hB1 hB2
  generalize w2.heap.size = L at hAL hC ⊢
  have hC' := Lib.hid hC; clear hC
  have hAL' := Lib.hid hAL; clear hAL
  have i0 := ixp0
  have i1 := ixp1
  have i2 := ixp2
  have i3 := ixp3
  refine wp_loop_rounds 5 ?_
  rw [rounds_succ]
  go_wp2
  refine each5 g op hcall eg _ _ L 0 (by omega) _ _ x.a y.a rfl rfl w _ _ _ hC'.out (by omega) hAL'.out (by omega) (by omega) _ _ _ _ _ _ _ _ _ _ _ _ _ _ _ _ _ _ _ _ _ _ ?_
  clear hC'
  intro j16 j17 j18 j19 j20 j21 j22 j23 j24 j25 j26 j27 W' hC
  have hC' := Lib.hid hC; clear hC
  go_wp2
  rw [rounds_succ]
  go_wp2
  refine each5 g op hcall eg _ _ L 1 (by omega) _ _ x.b y.b rfl rfl w _ _ _ hC'.out (by omega) hAL'.out (by omega) (by omega) _ _ _ _ _ _ _ _ _ _ _ _ _ _ _ _ _ _ _ _ _ _ ?_
  clear hC'
  intro j16 j17 j18 j19 j20 j21 j22 j23 j24 j25 j26 j27 W' hC
  have hC' := Lib.hid hC; clear hC
  go_wp2
  rw [rounds_succ]
  go_wp2
  refine each5 g op hcall eg _ _ L 2 (by omega) _ _ x.c y.c rfl rfl w _ _ _ hC'.out (by omega) hAL'.out (by omega) (by omega) _ _ _ _ _ _ _ _ _ _ _ _ _ _ _ _ _ _ _ _ _ _ ?_
  clear hC'
  intro j16 j17 j18 j19 j20 j21 j22 j23 j24 j25 j26 j27 W' hC
  have hC' := Lib.hid hC; clear hC
  go_wp2
  rw [rounds_succ]
  go_wp2
  refine each5 g op hcall eg _ _ L 3 (by omega) _ _ x.d y.d rfl rfl w _ _ _ hC'.out (by omega) hAL'.out (by omega) (by omega) _ _ _ _ _ _ _ _ _ _ _ _ _ _ _ _ _ _ _ _ _ _ ?_
  clear hC'
  intro j16 j17 j18 j19 j20 j21 j22 j23 j24 j25 j26 j27 W' hC
  have hC' := Lib.hid hC; clear hC
  go_wp2
  rw [rounds_succ]
  have hb := hC'.out.blocks
  simp only [List.forall_mem_cons, List.not_mem_nil, false_imp_iff, implies_true, and_true] at hb
  obtain ⟨b1, b2, b3, b4⟩ := hb
  have cA := Mild.cell_of_block (cs := coc ⟨op x.a y.a, op x.b y.b, op x.c y.c, op x.d y.d⟩) b1
  have fR := Mild.free_of_block b4
  have cR := Mild.cell_of_block b4
  have hB := hC'.out.below
  have hz := hC'.out.big
  go_wp2
  exact bodyPost_ret (v := cov ⟨op x.a y.a, op x.b y.b, op x.c y.c, op x.d y.d⟩) (by simp [results, Tryz.results22, go_sem, *]) rfl ⟨rfl, by (repeat' (first | (with_reducible exact Below.refl _ _) | (with_reducible assumption) | (with_reducible refine Below.alloc ?_ ?_ _) | (with_reducible refine Below.drew ?_) | (with_reducible refine bdn ?_ _) | (with_reducible refine Below.setCell ?_ ?_ _) | go_size))⟩
end Go.Proofs.YtajccjbigcdkbaaGreatDoor
