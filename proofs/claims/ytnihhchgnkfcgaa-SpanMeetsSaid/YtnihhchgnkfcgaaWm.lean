/- The walk of SpanMeets. -/
import Derived.Test.YtnihhchgnkfcgaaRaw
import Derived.Test.YtnihhchgnkfcgaaPf
import Derived.Test.YtnihhchgnkfcgaaCls
-- USEBDN
set_option linter.unusedSimpArgs false
set_option linter.unusedVariables false
namespace Go.Proofs.Ytnihhchgnkfcgaa
open Go.ChangeShapes Go.WideShapes Go.ChangeAt Go.RowKit
abbrev zobj : Obj := .cells #[.int .i64 0, .int .i64 0, .int .i64 0] 28
theorem mk28 (dst : Option Tmp) (ty : TypeId) (pos : String) (after : Array Edge) (g : Option (Nat × Bool)) (ρ : Operand → Value) (W : World) :
    (execOp ρ ⟨dst, .alloc 28, ty, pos, after, g⟩).run Try.prog W = .ok (.value (Mild.ptrTo W.heap.size)) (W.alloc zobj) := by
  simp [go_sem, Mild.ptrTo]

/-- The cells that SpanMeets reads in its loop and after it. -/
abbrev MC (w : World) (A D M : Nat) (s t : Sp) (r : Sp × Bool) : World → Prop := Mild.Cls w.heap.size w [(⟨A, 0, none⟩, .int .i64 s.lo), (⟨A, 1, none⟩, .int .i64 s.hi), (⟨A, 2, none⟩, .int .i64 s.st), (⟨D, 0, none⟩, .int .i64 t.lo), (⟨D, 1, none⟩, .int .i64 t.hi), (⟨D, 2, none⟩, .int .i64 t.st), (⟨M, 0, none⟩, .int .i64 r.1.lo), (⟨M, 1, none⟩, .int .i64 r.1.hi), (⟨M, 2, none⟩, .int .i64 r.1.st), (⟨M, 3, none⟩, .bool r.2)]
theorem MC.out {w : World} {A D M : Nat} {s t : Sp} {r : Sp × Bool} {W : World} (h : MC w A D M s t r W) :
    W.cell? ⟨A, 0, none⟩ = some (.int .i64 s.lo) ∧ W.cell? ⟨A, 1, none⟩ = some (.int .i64 s.hi) ∧ W.cell? ⟨A, 2, none⟩ = some (.int .i64 s.st) ∧ W.cell? ⟨D, 0, none⟩ = some (.int .i64 t.lo) ∧ W.cell? ⟨D, 1, none⟩ = some (.int .i64 t.hi) ∧ W.cell? ⟨D, 2, none⟩ = some (.int .i64 t.st) ∧ W.cell? ⟨M, 0, none⟩ = some (.int .i64 r.1.lo) ∧ W.cell? ⟨M, 1, none⟩ = some (.int .i64 r.1.hi) ∧ W.cell? ⟨M, 2, none⟩ = some (.int .i64 r.1.st) ∧ W.cell? ⟨M, 3, none⟩ = some (.bool r.2) := by
  have := h.cells
  simp only [List.forall_mem_cons, List.not_mem_nil, false_imp_iff, implies_true, and_true] at this
  exact this
theorem MC.step {w : World} {A D M : Nat} {s t : Sp} {r : Sp × Bool} {W W' : World} (h : MC w A D M s t r W) (hb : Below W.heap.size W W') : MC w A D M s t r W' := Mild.Cls.closed _ _ h hb
set_option maxHeartbeats 4000000 in
theorem meets_any (a b c a2 b2 c2 : Int) (w : World) (hx : RawB a b c) (hy : RawB a2 b2 c2) :
    Calls Try.prog 3 #[rawv a b c, rawv a2 b2 c2] w fun e w' => e = .returned (.bool true) ∧ Below w.heap.size w w' := by
  go_enter Try.func3, Try.ntmps3
  go_wp2_with (first | (go_at_call 10; refine (examples_any _).mono ?_; rintro e w1 ⟨rfl, hb⟩; obtain ⟨hc, hf⟩ := bcell hb; have hz := hb.size; (try simp at hz); have z0 : w.heap.size < w1.heap.size := (by omega); have c0 := fun o => hc (w.heap.size) o (by go_size); have f0 := fun o => hf (w.heap.size) o (by go_size); have z1 : w.heap.size + 1 < w1.heap.size := (by omega); have c1 := fun o => hc (w.heap.size + 1) o (by go_size); have f1 := fun o => hf (w.heap.size + 1) o (by go_size); clear hc hf; have hB := bup (B := w.heap.size) (w := w) (by (repeat' (first | (with_reducible exact Below.refl _ _) | (with_reducible assumption) | (with_reducible refine Below.alloc ?_ ?_ _) | (with_reducible refine Below.drew ?_) | (with_reducible refine bdn ?_ _) | (with_reducible refine Below.setCell ?_ ?_ _) | go_size))) hb (by go_size); clear hb))
  refine Mild.region_mild 6 [⟨4, 6, zobj⟩, ⟨5, 7, zobj⟩] (Mild.Cls w.heap.size w [(⟨w.heap.size, 0, none⟩, .int .i64 a), (⟨w.heap.size, 1, none⟩, .int .u32 b), (⟨w.heap.size, 2, none⟩, .int .u16 c), (⟨w.heap.size + 1, 0, none⟩, .int .i64 a2), (⟨w.heap.size + 1, 1, none⟩, .int .u32 b2), (⟨w.heap.size + 1, 2, none⟩, .int .u16 c2)]) (by kernel_rfl) 85 (by kernel_rfl) rfl (by simp) Mild.Cls.closed ?h0 ?HM ?H
  case h0 => exact ⟨by (repeat' (first | (with_reducible exact Below.refl _ _) | (with_reducible assumption) | (with_reducible refine Below.alloc ?_ ?_ _) | (with_reducible refine Below.drew ?_) | (with_reducible refine bdn ?_ _) | (with_reducible refine Below.setCell ?_ ?_ _) | go_size)), by omega, by simp [*, go_sem]⟩
  case HM => simp; exact ⟨mk28 _ _ _ _ _, mk28 _ _ _ _ _⟩
  apply Exists.intro
  refine ⟨?HW, ?HT⟩
  case HW =>
    intro W hW
    have hWc := hW.cells
    simp only [List.forall_mem_cons, List.not_mem_nil, false_imp_iff, implies_true, and_true] at hWc
    obtain ⟨g0, g1, g2, g3, g4, g5⟩ := hWc
    have hWb := Lib.hid hW; clear hW
    simp only [List.take_succ_cons, List.take_zero]
    apply Mild.walkM_q rfl
    go_wp2
    refine ⟨rfl, rfl, Below.refl _ _, ?_⟩
    apply Mild.walkM_q rfl
    go_wp2_with (go_at_call 11; (with_reducible refine (small_any a b c _ hx.a1 hx.a2 hx.b1 hx.b2 hx.c1 hx.c2).mono ?_); rintro e w1 ⟨rfl, hb⟩)
    refine ⟨rfl, rfl, hb, ?_⟩
    apply Mild.walkM_q rfl
    go_wp2
    refine ⟨rfl, rfl, Below.refl _ _, ?_⟩
    apply Mild.walkM_q rfl
    go_wp2_with (go_at_call 11; (with_reducible refine (small_any a2 b2 c2 _ hy.a1 hy.a2 hy.b1 hy.b2 hy.c1 hy.c2).mono ?_); rintro e w1 ⟨rfl, hb⟩)
    refine ⟨rfl, rfl, hb, ?_⟩
    apply Mild.walkM_m rfl
    apply Mild.walkM_m rfl
    exact Mild.walkM_end rfl
  case HT =>
    intro F w2 hC hheld hinj
    simp at hheld hinj
    simp only [List.drop_succ_cons, List.drop_zero, Mild.putAll, List.foldl_cons, List.foldl_nil, Mild.ptrTo, Act.put, List.setIfInBounds_toArray, List.set_cons_zero, List.set_cons_succ]
    obtain ⟨⟨hA1, hA⟩, hD1, hD⟩ := hheld
    have hne := hinj.1
    generalize F 4 = A at *
    generalize F 5 = D at *
    clear hinj F
    have lA := Mild.lt_of_block hA
    have lD := Mild.lt_of_block hD
    have hB2 : Below w.heap.size w w2 := hC.below
    have cA := Mild.cell_of_block hA
    have cD := Mild.cell_of_block hD
    have fA := Mild.free_of_block hA
    have fD := Mild.free_of_block hD
    clear hC hA hD hB
    have lA1 : w.heap.size ≤ A := (by omega)
    have lD1 : w.heap.size ≤ D := (by omega)
    clear c0 f0 c1 f1 z0 z1 hz hA1 hD1 w1
    have hs := small_vld a b c
    have ht := small_vld a2 b2 c2
    have bs := small_bd a b c
    have bt := small_bd a2 b2 c2
    generalize smallM a b c = s at *
    generalize smallM a2 b2 c2 = t at *
    have s3 : s.st ≤ 2147483648 := (by omega)
    have t3 : t.st ≤ 2147483648 := (by omega)
    go_wp2_with (go_at_call 12; (with_reducible refine (lmeet_any s t _ hs ht s3 t3).mono ?_); rintro e w3 ⟨rfl, hb⟩; obtain ⟨hc, hf⟩ := bcell hb; have hz := hb.size; (try simp at hz); have cA3 := fun o => hc A o (by go_size); have cD3 := fun o => hc D o (by go_size); have lA3 : A < w3.heap.size := (by omega); have lD3 : D < w3.heap.size := (by omega); have hB := bup (B := w.heap.size) (w := w) (by (repeat' (first | (with_reducible exact Below.refl _ _) | (with_reducible assumption) | (with_reducible refine Below.alloc ?_ ?_ _) | (with_reducible refine Below.drew ?_) | (with_reducible refine bdn ?_ _) | (with_reducible refine Below.setCell ?_ ?_ _) | go_size))) hb (by go_size); clear hb hc hf)
    have HC : Hid (MC w A D w3.heap.size s t (meetM s t) (w3.alloc (.cells #[.int .i64 (meetM s t).1.lo, .int .i64 (meetM s t).1.hi, .int .i64 (meetM s t).1.st, .bool (meetM s t).2] 31))) := Lib.hid ⟨hB.alloc (by omega) _, by simp; omega, by
      simp only [List.forall_mem_cons, List.not_mem_nil, false_imp_iff, implies_true, and_true]
      simp [*, go_sem, Ne.symm hne]⟩
    have HE := Lib.hid (meets_end hs ht s3 t3 (by omega) (by omega))
    have HR := Lib.hid (fun n => meets_round hs ht s3 t3 n)
    generalize w3.alloc _ = w4 at *
    generalize w3.heap.size = M at *
    clear fA fD cA cD cA3 cD3 hB hB2 lA lD lA1 lD1 hne
    have hv0 := hs.pos
    have hv1 := ht.pos
    obtain ⟨r, hr⟩ : ∃ r, r = meetM s t := ⟨_, rfl⟩
    rw [← hr] at HE HR HC
    rw [← hr]
    have hmv : Hid (r.2 = true → (0 ≤ r.1.st ∧ (r.1.lo < r.1.hi → 1 ≤ r.1.st) ∧ -2305843009213693952 ≤ r.1.lo ∧ r.1.hi ≤ 2305843009213693952 ∧ r.1.st ≤ 2305843009213693952 ∧ r.1.lo ≤ r.1.hi)) := Lib.hid (fun h => by
      obtain ⟨v, z, b1, b2⟩ := HE.out.2 h
      have h1 := v.one
      have h2 := v.pos
      have h3 := v.le
      have h4 := v.st0
      have h5 := v.stle
      exact ⟨by omega, h2, by omega, by omega, by omega, h3⟩)
    have hM := Lib.hid hr
    clear hr
    go_loopw [9, 10, 11] (fun c n _ wr => ∃ (j : Nat), j ≤ 251 ∧ c = .int .i64 (cntM s t j) ∧ n = .int .i64 ((j : Int) - 50) ∧ Hid (MC w A D M s t r wr)) (fun _ n _ _ => (201 - intOf n).toNat)
    case atStart => exact ⟨0, by omega, rfl, rfl, HC⟩
    case round =>
      clear HC
      obtain ⟨j, hj, rfl, rfl, HC⟩ := hrel
      obtain ⟨cb1, cb2⟩ := cntM_bd s t j
      obtain ⟨g0, g1, g2, g3, g4, g5, g6, g7, g8, g9⟩ := HC.out.out
      by_cases hlt : j < 251
      · have hstep : Hid (cntM s t (j + 1) = cntM s t j + if (hasB s ((j : Int) - 50) && hasB t ((j : Int) - 50)) = true then 1 else 0) := Lib.hid rfl
        have hrr := HR.out ((j : Int) - 50)
        cases hr2 : r.2
        · rw [hr2, Bool.false_and] at hrr
          cases hsn : hasB s ((j : Int) - 50)
          · rw [hsn, Bool.false_and] at hstep
            have hst2 := Lib.hid (hstep.out.trans (Int.add_zero _)); clear hstep hrr
            go_wp2_with (first | (go_at_call 13; (with_reducible refine (has_any s ((j : Int) - 50) _ (by omega) hv0 (by omega) (by omega) (by omega)).mono ?_); rw [hsn]; rintro e w5 ⟨rfl, hb⟩; replace HC := Lib.hid (HC.out.step hb); clear g0 g1 g2 g3 g4 g5 g6 g7 g8 g9 hb; obtain ⟨g0, g1, g2, g3, g4, g5, g6, g7, g8, g9⟩ := HC.out.out) | (go_at_call 13; (with_reducible refine (has_any t ((j : Int) - 50) _ (by omega) hv1 (by omega) (by omega) (by omega)).mono ?_); rw [htn]; rintro e w5 ⟨rfl, hb⟩; replace HC := Lib.hid (HC.out.step hb); clear g0 g1 g2 g3 g4 g5 g6 g7 g8 g9 hb; obtain ⟨g0, g1, g2, g3, g4, g5, g6, g7, g8, g9⟩ := HC.out.out) | (go_at_call 13; (with_reducible refine (has_any r.1 ((j : Int) - 50) _ n1 n2 n3 n4 n5).mono ?_); rw [hrn]; rintro e w5 ⟨rfl, hb⟩; replace HC := Lib.hid (HC.out.step hb); clear g0 g1 g2 g3 g4 g5 g6 g7 g8 g9 hb; obtain ⟨g0, g1, g2, g3, g4, g5, g6, g7, g8, g9⟩ := HC.out.out))
            go_roundw
            case rel => exact ⟨j + 1, by omega, congrArg (Value.int .i64) hst2.out.symm, congrArg (Value.int .i64) (by omega), HC⟩
            case measure => simp [intOf]; omega
          · rw [hsn, Bool.true_and] at hrr
            have htn := hrr
            rw [hsn, htn] at hstep
            have hst2 := Lib.hid (hstep.out.trans (Int.add_zero _)); clear hstep hrr
            go_wp2_with (first | (go_at_call 13; (with_reducible refine (has_any s ((j : Int) - 50) _ (by omega) hv0 (by omega) (by omega) (by omega)).mono ?_); rw [hsn]; rintro e w5 ⟨rfl, hb⟩; replace HC := Lib.hid (HC.out.step hb); clear g0 g1 g2 g3 g4 g5 g6 g7 g8 g9 hb; obtain ⟨g0, g1, g2, g3, g4, g5, g6, g7, g8, g9⟩ := HC.out.out) | (go_at_call 13; (with_reducible refine (has_any t ((j : Int) - 50) _ (by omega) hv1 (by omega) (by omega) (by omega)).mono ?_); rw [htn]; rintro e w5 ⟨rfl, hb⟩; replace HC := Lib.hid (HC.out.step hb); clear g0 g1 g2 g3 g4 g5 g6 g7 g8 g9 hb; obtain ⟨g0, g1, g2, g3, g4, g5, g6, g7, g8, g9⟩ := HC.out.out) | (go_at_call 13; (with_reducible refine (has_any r.1 ((j : Int) - 50) _ n1 n2 n3 n4 n5).mono ?_); rw [hrn]; rintro e w5 ⟨rfl, hb⟩; replace HC := Lib.hid (HC.out.step hb); clear g0 g1 g2 g3 g4 g5 g6 g7 g8 g9 hb; obtain ⟨g0, g1, g2, g3, g4, g5, g6, g7, g8, g9⟩ := HC.out.out))
            go_roundw
            case rel => exact ⟨j + 1, by omega, congrArg (Value.int .i64) hst2.out.symm, congrArg (Value.int .i64) (by omega), HC⟩
            case measure => simp [intOf]; omega
        · obtain ⟨n1, n2, n3, n4, n5, n6⟩ := hmv.out hr2
          rw [hr2, Bool.true_and] at hrr
          cases hsn : hasB s ((j : Int) - 50)
          · rw [hsn, Bool.false_and] at hrr
            have hrn := hrr.symm
            rw [hsn, Bool.false_and] at hstep
            have hst2 := Lib.hid (hstep.out.trans (Int.add_zero _)); clear hstep hrr
            go_wp2_with (first | (go_at_call 13; (with_reducible refine (has_any s ((j : Int) - 50) _ (by omega) hv0 (by omega) (by omega) (by omega)).mono ?_); rw [hsn]; rintro e w5 ⟨rfl, hb⟩; replace HC := Lib.hid (HC.out.step hb); clear g0 g1 g2 g3 g4 g5 g6 g7 g8 g9 hb; obtain ⟨g0, g1, g2, g3, g4, g5, g6, g7, g8, g9⟩ := HC.out.out) | (go_at_call 13; (with_reducible refine (has_any t ((j : Int) - 50) _ (by omega) hv1 (by omega) (by omega) (by omega)).mono ?_); rw [htn]; rintro e w5 ⟨rfl, hb⟩; replace HC := Lib.hid (HC.out.step hb); clear g0 g1 g2 g3 g4 g5 g6 g7 g8 g9 hb; obtain ⟨g0, g1, g2, g3, g4, g5, g6, g7, g8, g9⟩ := HC.out.out) | (go_at_call 13; (with_reducible refine (has_any r.1 ((j : Int) - 50) _ n1 n2 n3 n4 n5).mono ?_); rw [hrn]; rintro e w5 ⟨rfl, hb⟩; replace HC := Lib.hid (HC.out.step hb); clear g0 g1 g2 g3 g4 g5 g6 g7 g8 g9 hb; obtain ⟨g0, g1, g2, g3, g4, g5, g6, g7, g8, g9⟩ := HC.out.out))
            go_roundw
            case rel => exact ⟨j + 1, by omega, congrArg (Value.int .i64) hst2.out.symm, congrArg (Value.int .i64) (by omega), HC⟩
            case measure => simp [intOf]; omega
          · rw [hsn, Bool.true_and] at hrr
            cases htn : hasB t ((j : Int) - 50)
            · rw [htn] at hrr
              have hrn := hrr.symm
              rw [hsn, htn] at hstep
              have hst2 := Lib.hid (hstep.out.trans (Int.add_zero _)); clear hstep hrr
              go_wp2_with (first | (go_at_call 13; (with_reducible refine (has_any s ((j : Int) - 50) _ (by omega) hv0 (by omega) (by omega) (by omega)).mono ?_); rw [hsn]; rintro e w5 ⟨rfl, hb⟩; replace HC := Lib.hid (HC.out.step hb); clear g0 g1 g2 g3 g4 g5 g6 g7 g8 g9 hb; obtain ⟨g0, g1, g2, g3, g4, g5, g6, g7, g8, g9⟩ := HC.out.out) | (go_at_call 13; (with_reducible refine (has_any t ((j : Int) - 50) _ (by omega) hv1 (by omega) (by omega) (by omega)).mono ?_); rw [htn]; rintro e w5 ⟨rfl, hb⟩; replace HC := Lib.hid (HC.out.step hb); clear g0 g1 g2 g3 g4 g5 g6 g7 g8 g9 hb; obtain ⟨g0, g1, g2, g3, g4, g5, g6, g7, g8, g9⟩ := HC.out.out) | (go_at_call 13; (with_reducible refine (has_any r.1 ((j : Int) - 50) _ n1 n2 n3 n4 n5).mono ?_); rw [hrn]; rintro e w5 ⟨rfl, hb⟩; replace HC := Lib.hid (HC.out.step hb); clear g0 g1 g2 g3 g4 g5 g6 g7 g8 g9 hb; obtain ⟨g0, g1, g2, g3, g4, g5, g6, g7, g8, g9⟩ := HC.out.out))
              go_roundw
              case rel => exact ⟨j + 1, by omega, congrArg (Value.int .i64) hst2.out.symm, congrArg (Value.int .i64) (by omega), HC⟩
              case measure => simp [intOf]; omega
            · rw [htn] at hrr
              have hrn := hrr.symm
              rw [hsn, htn] at hstep
              have hst2 := Lib.hid (hstep.out.trans rfl : cntM s t (j + 1) = cntM s t j + 1); clear hstep hrr
              go_wp2_with (first | (go_at_call 13; (with_reducible refine (has_any s ((j : Int) - 50) _ (by omega) hv0 (by omega) (by omega) (by omega)).mono ?_); rw [hsn]; rintro e w5 ⟨rfl, hb⟩; replace HC := Lib.hid (HC.out.step hb); clear g0 g1 g2 g3 g4 g5 g6 g7 g8 g9 hb; obtain ⟨g0, g1, g2, g3, g4, g5, g6, g7, g8, g9⟩ := HC.out.out) | (go_at_call 13; (with_reducible refine (has_any t ((j : Int) - 50) _ (by omega) hv1 (by omega) (by omega) (by omega)).mono ?_); rw [htn]; rintro e w5 ⟨rfl, hb⟩; replace HC := Lib.hid (HC.out.step hb); clear g0 g1 g2 g3 g4 g5 g6 g7 g8 g9 hb; obtain ⟨g0, g1, g2, g3, g4, g5, g6, g7, g8, g9⟩ := HC.out.out) | (go_at_call 13; (with_reducible refine (has_any r.1 ((j : Int) - 50) _ n1 n2 n3 n4 n5).mono ?_); rw [hrn]; rintro e w5 ⟨rfl, hb⟩; replace HC := Lib.hid (HC.out.step hb); clear g0 g1 g2 g3 g4 g5 g6 g7 g8 g9 hb; obtain ⟨g0, g1, g2, g3, g4, g5, g6, g7, g8, g9⟩ := HC.out.out))
              go_roundw
              case rel => exact ⟨j + 1, by omega, congrArg (Value.int .i64) hst2.out.symm, congrArg (Value.int .i64) (by omega), HC⟩
              case measure => simp [intOf]; omega
      · have hj2 : j = 251 := by omega
        subst hj2
        cases hr2 : r.2
        · obtain ⟨e1, e2⟩ := HE.out.1 hr2
          have q1 : r.1.lo = 0 := by rw [e2]; rfl
          have q2 : r.1.hi = 0 := by rw [e2]; rfl
          have q3 : r.1.st = 0 := by rw [e2]; rfl
          clear e2
          rw [q1] at g6; rw [q2] at g7; rw [q3] at g8
          rw [e1]
          go_wp2_with (go_at_call 14; (with_reducible refine (apart_any s t _ hs ht s3 t3).mono ?_); rw [← hM.out, hr2]; rintro e w5 ⟨rfl, hb⟩; replace HC := Lib.hid (HC.out.step hb); clear g0 g1 g2 g3 g4 g5 g6 g7 g8 g9 hb; obtain ⟨g0, g1, g2, g3, g4, g5, g6, g7, g8, g9⟩ := HC.out.out; rw [q1] at g6; rw [q2] at g7; rw [q3] at g8)
          go_ret
          exact ⟨rfl, HC.out.below⟩
        · obtain ⟨v, z, b1, b2⟩ := HE.out.2 hr2
          obtain ⟨n1, n2, n3, n4, n5, n6⟩ := hmv.out hr2
          have hv := (vldB_iff r.1).2 v
          rw [← z]
          clear b1 b2
          go_wp2_with (first | (go_at_call 15; (with_reducible refine (valid_any r.1 _).mono ?_); rw [hv]; rintro e w5 ⟨rfl, hb⟩; replace HC := Lib.hid (HC.out.step hb); clear g0 g1 g2 g3 g4 g5 g6 g7 g8 g9 hb; obtain ⟨g0, g1, g2, g3, g4, g5, g6, g7, g8, g9⟩ := HC.out.out) | (go_at_call 16; (with_reducible refine (size_any r.1 _ n1 n6 n3 n4 n5).mono ?_); rintro e w5 ⟨rfl, hb⟩; replace HC := Lib.hid (HC.out.step hb); clear g0 g1 g2 g3 g4 g5 g6 g7 g8 g9 hb; obtain ⟨g0, g1, g2, g3, g4, g5, g6, g7, g8, g9⟩ := HC.out.out) | (go_at_call 14; (with_reducible refine (apart_any s t _ hs ht s3 t3).mono ?_); rw [← hM.out, hr2]; rintro e w5 ⟨rfl, hb⟩; replace HC := Lib.hid (HC.out.step hb); clear g0 g1 g2 g3 g4 g5 g6 g7 g8 g9 hb; obtain ⟨g0, g1, g2, g3, g4, g5, g6, g7, g8, g9⟩ := HC.out.out))
          go_ret
          exact ⟨rfl, HC.out.below⟩
end Go.Proofs.Ytnihhchgnkfcgaa
