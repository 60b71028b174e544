/- The walk of SpanOrder. -/
import Derived.Test.YtnihhchgnkfcgaaCe
import Derived.Test.YtnihhchgnkfcgaaPg
import Derived.Test.YtnihhchgnkfcgaaCls
-- USEBDN
set_option linter.unusedSimpArgs false
set_option linter.unusedVariables false
namespace Go.Proofs.Ytnihhchgnkfcgaa
open Go.ChangeShapes Go.WideShapes Go.ChangeAt Go.RowKit
/-- The cells of SpanOrder: three spans, and their first join. -/
abbrev OC (w : World) (A D E M : Nat) (p q r J : Sp) : World → Prop := Mild.Cls w.heap.size w [(⟨A, 0, none⟩, .int .i64 p.lo), (⟨A, 1, none⟩, .int .i64 p.hi), (⟨A, 2, none⟩, .int .i64 p.st), (⟨D, 0, none⟩, .int .i64 q.lo), (⟨D, 1, none⟩, .int .i64 q.hi), (⟨D, 2, none⟩, .int .i64 q.st), (⟨E, 0, none⟩, .int .i64 r.lo), (⟨E, 1, none⟩, .int .i64 r.hi), (⟨E, 2, none⟩, .int .i64 r.st), (⟨M, 0, none⟩, .int .i64 J.lo), (⟨M, 1, none⟩, .int .i64 J.hi), (⟨M, 2, none⟩, .int .i64 J.st)]
abbrev OC2 (w : World) (A D E P Q : Nat) (p q r : Sp) (m n : Sp × Bool) : World → Prop := Mild.Cls w.heap.size w [(⟨A, 0, none⟩, .int .i64 p.lo), (⟨A, 1, none⟩, .int .i64 p.hi), (⟨A, 2, none⟩, .int .i64 p.st), (⟨E, 0, none⟩, .int .i64 r.lo), (⟨E, 1, none⟩, .int .i64 r.hi), (⟨E, 2, none⟩, .int .i64 r.st), (⟨P, 0, none⟩, .int .i64 m.1.lo), (⟨P, 1, none⟩, .int .i64 m.1.hi), (⟨P, 2, none⟩, .int .i64 m.1.st), (⟨P, 3, none⟩, .bool m.2), (⟨Q, 0, none⟩, .int .i64 n.1.lo), (⟨Q, 1, none⟩, .int .i64 n.1.hi), (⟨Q, 2, none⟩, .int .i64 n.1.st), (⟨Q, 3, none⟩, .bool n.2)]
set_option maxHeartbeats 4000000 in
theorem order_any (xa xb xc ya yb yc ua ub uc : Int) (w : World) (hx : RawB xa xb xc) (hy : RawB ya yb yc) (hu : RawB ua ub uc) :
    Calls Try.prog 5 #[rawv xa xb xc, rawv ya yb yc, rawv ua ub uc] w fun e w' => e = .returned (.bool true) ∧ Below w.heap.size w w' := by
  go_enter Try.func5, Try.ntmps5
  go_wp2_with (first | (go_at_call 10; refine (examples_any _).mono ?_; rintro e w1 ⟨rfl, hb⟩; obtain ⟨hc, hf⟩ := bcell hb; have hz := hb.size; (try simp at hz); have z0 : w.heap.size < w1.heap.size := (by omega); have c0 := fun o => hc (w.heap.size) o (by go_size); have f0 := fun o => hf (w.heap.size) o (by go_size); have z1 : w.heap.size + 1 < w1.heap.size := (by omega); have c1 := fun o => hc (w.heap.size + 1) o (by go_size); have f1 := fun o => hf (w.heap.size + 1) o (by go_size); have z2 : w.heap.size + 2 < w1.heap.size := (by omega); have c2 := fun o => hc (w.heap.size + 2) o (by go_size); have f2 := fun o => hf (w.heap.size + 2) o (by go_size); clear hc hf; have hB := bup (B := w.heap.size) (w := w) (by (repeat' (first | (with_reducible exact Below.refl _ _) | (with_reducible assumption) | (with_reducible refine Below.alloc ?_ ?_ _) | (with_reducible refine Below.drew ?_) | (with_reducible refine bdn ?_ _) | (with_reducible refine Below.setCell ?_ ?_ _) | go_size))) hb (by go_size); clear hb))
  refine Mild.region_mild 9 [⟨6, 8, zobj⟩, ⟨7, 9, zobj⟩, ⟨8, 10, zobj⟩] (Mild.Cls w.heap.size w [(⟨w.heap.size, 0, none⟩, .int .i64 xa), (⟨w.heap.size, 1, none⟩, .int .u32 xb), (⟨w.heap.size, 2, none⟩, .int .u16 xc), (⟨w.heap.size + 1, 0, none⟩, .int .i64 ya), (⟨w.heap.size + 1, 1, none⟩, .int .u32 yb), (⟨w.heap.size + 1, 2, none⟩, .int .u16 yc), (⟨w.heap.size + 2, 0, none⟩, .int .i64 ua), (⟨w.heap.size + 2, 1, none⟩, .int .u32 ub), (⟨w.heap.size + 2, 2, none⟩, .int .u16 uc)]) (by kernel_rfl) 123 (by kernel_rfl) rfl (by simp) Mild.Cls.closed ?h0 ?HM ?H
  case h0 => exact ⟨by (repeat' (first | (with_reducible exact Below.refl _ _) | (with_reducible assumption) | (with_reducible refine Below.alloc ?_ ?_ _) | (with_reducible refine Below.drew ?_) | (with_reducible refine bdn ?_ _) | (with_reducible refine Below.setCell ?_ ?_ _) | go_size)), by omega, by simp [*, go_sem]⟩
  case HM => simp; exact ⟨mk28 _ _ _ _ _, mk28 _ _ _ _ _, mk28 _ _ _ _ _⟩
  apply Exists.intro
  refine ⟨?HW, ?HT⟩
  case HW =>
    intro W hW
    have hWc := hW.cells
    simp only [List.forall_mem_cons, List.not_mem_nil, false_imp_iff, implies_true, and_true] at hWc
    obtain ⟨g0, g1, g2, g3, g4, g5, g6, g7, g8⟩ := hWc
    have hWb := Lib.hid hW; clear hW
    simp only [List.take_succ_cons, List.take_zero]
    repeat (apply Mild.walkM_q rfl; (go_wp2_with (first | (go_at_call 11; (with_reducible refine (small_any xa xb xc _ hx.a1 hx.a2 hx.b1 hx.b2 hx.c1 hx.c2).mono ?_); rintro e w1 ⟨rfl, hb⟩) | (go_at_call 11; (with_reducible refine (small_any ya yb yc _ hy.a1 hy.a2 hy.b1 hy.b2 hy.c1 hy.c2).mono ?_); rintro e w1 ⟨rfl, hb⟩) | (go_at_call 11; (with_reducible refine (small_any ua ub uc _ hu.a1 hu.a2 hu.b1 hu.b2 hu.c1 hu.c2).mono ?_); rintro e w1 ⟨rfl, hb⟩))); (first | refine ⟨rfl, rfl, Below.refl _ _, ?_⟩ | refine ⟨rfl, rfl, hb, ?_⟩))
    repeat apply Mild.walkM_m rfl
    exact Mild.walkM_end rfl
  case HT =>
    intro F w2 hC hheld hinj
    obtain ⟨hA1, hA⟩ := hheld ⟨6, 8, zobj⟩ (by simp)
    obtain ⟨hD1, hD⟩ := hheld ⟨7, 9, zobj⟩ (by simp)
    obtain ⟨hE1, hE⟩ := hheld ⟨8, 10, zobj⟩ (by simp)
    have n1 : F 6 ≠ F 7 := hinj ⟨6, 8, zobj⟩ (by simp) ⟨7, 9, zobj⟩ (by simp) (by decide)
    have n2 : F 6 ≠ F 8 := hinj ⟨6, 8, zobj⟩ (by simp) ⟨8, 10, zobj⟩ (by simp) (by decide)
    have n3 : F 7 ≠ F 8 := hinj ⟨7, 9, zobj⟩ (by simp) ⟨8, 10, zobj⟩ (by simp) (by decide)
    have n4 := n1.symm
    have n5 := n2.symm
    have n6 := n3.symm
    clear hinj hheld
    simp only [List.drop_succ_cons, List.drop_zero, Mild.putAll, List.foldl_cons, List.foldl_nil, Mild.ptrTo, Act.put, List.setIfInBounds_toArray, List.set_cons_zero, List.set_cons_succ]
    dsimp only at hA1 hA hD1 hD hE1 hE
    generalize F 6 = A at *
    generalize F 7 = D at *
    generalize F 8 = E at *
    clear F
    have lA := Mild.lt_of_block hA
    have lD := Mild.lt_of_block hD
    have lE := Mild.lt_of_block hE
    have hB2 : Below w.heap.size w w2 := hC.below
    have cA := Mild.cell_of_block hA
    have cD := Mild.cell_of_block hD
    have cE := Mild.cell_of_block hE
    have fA := Mild.free_of_block hA
    have fD := Mild.free_of_block hD
    have fE := Mild.free_of_block hE
    clear hC hA hD hE hB
    have lA1 : w.heap.size ≤ A := (by omega)
    have lD1 : w.heap.size ≤ D := (by omega)
    have lE1 : w.heap.size ≤ E := (by omega)
    clear c0 f0 c1 f1 z0 z1 z2 c2 f2 hz hA1 hD1 hE1 w1
    have hp := small_vld xa xb xc
    have hq := small_vld ya yb yc
    have hr := small_vld ua ub uc
    have bp := small_bd xa xb xc
    have bq := small_bd ya yb yc
    have br := small_bd ua ub uc
    generalize smallM xa xb xc = p at *
    generalize smallM ya yb yc = q at *
    generalize smallM ua ub uc = r at *
    have lp := hp.le; have lq := hq.le; have lr := hr.le
    have hJ := join_vld hp hq
    have hK := join_vld hq hr
    have e1 := join_comm hp hq
    have e2 := join_idem hp
    have e3 := meet_idem hp (by omega)
    have e5 := join_assoc hp hq hr
    have bJ : -40 ≤ (joinM p q).lo ∧ (joinM p q).hi ≤ 166 := by rw [joinM_eq, made_lo, made_hi]; omega
    have sJ := hJ.stle
    have e6 := meet_sub hp hJ (by omega) (by omega) (join_left hp hq)
    have i1 := (inside_iff hp _).2 (join_left hp hq)
    have i2 := (inside_iff hq _).2 (join_right hp hq)
    have mset := meet_set hp hq (by omega) (by omega)
    have nset := meet_set hq hr (by omega) (by omega)
    have asso := meet_assoc hp hq hr (by omega) (by omega) (by omega)
    have m0 : ∀ x, Vld x → Sub x p → joinM p x = p := fun x hx h => join_absorb hp hx h
    have m1 : ∀ x, Vld x → Sub x p → meetM p x = (x, true) := fun x hx h => meet_sub' hp hx (by omega) (st_le_of_sub hx hp h (by omega)) h
    obtain ⟨J, hJe⟩ : ∃ J, J = joinM p q := ⟨_, rfl⟩
    obtain ⟨K, hKe⟩ : ∃ K, K = joinM q r := ⟨_, rfl⟩
    rw [← hJe] at hJ e1 e5 bJ sJ e6 i1 i2
    rw [← hKe] at hK e5
    have E1 := Lib.hid e1; have E2 := Lib.hid e2; have E3 := Lib.hid e3; have E5 := Lib.hid e5; have E6 := Lib.hid e6; have I1 := Lib.hid i1; have I2 := Lib.hid i2
    have HJ := Lib.hid hJe; have HK := Lib.hid hKe
    have MS := Lib.hid mset; have NS := Lib.hid nset; have AS := Lib.hid asso; have M0 := Lib.hid m0; have M1 := Lib.hid m1
    clear e1 e2 e3 e5 e6 i1 i2 hJe hKe mset nset asso m0 m1
    go_wp2_with (go_at_call 23; (with_reducible refine (join_any p q _ hp.bd hq.bd).mono ?_); rw [← HJ.out]; rintro e w3 ⟨rfl, hb⟩; obtain ⟨hc, hf⟩ := bcell hb; have hz := hb.size; (try simp at hz); have cA3 := fun o => hc A o (by go_size); have cD3 := fun o => hc D o (by go_size); have cE3 := fun o => hc E o (by go_size); have lA3 : A < w3.heap.size := (by omega); have lD3 : D < w3.heap.size := (by omega); have lE3 : E < w3.heap.size := (by omega); have hB := bup (B := w.heap.size) (w := w) (by (repeat' (first | (with_reducible exact Below.refl _ _) | (with_reducible assumption) | (with_reducible refine Below.alloc ?_ ?_ _) | (with_reducible refine Below.drew ?_) | (with_reducible refine bdn ?_ _) | (with_reducible refine Below.setCell ?_ ?_ _) | go_size))) hb (by go_size); clear hb hc hf)
    have HC : Hid (OC w A D E w3.heap.size p q r J (w3.alloc (.cells #[.int .i64 J.lo, .int .i64 J.hi, .int .i64 J.st] 28))) := Lib.hid ⟨hB.alloc (by omega) _, by simp; omega, by
      simp only [List.forall_mem_cons, List.not_mem_nil, false_imp_iff, implies_true, and_true]
      simp [*, go_sem]⟩
    have lM3 : w3.heap.size < (w3.alloc (.cells #[.int .i64 J.lo, .int .i64 J.hi, .int .i64 J.st] 28)).heap.size := by simp
    have lA4 : A < (w3.alloc (.cells #[.int .i64 J.lo, .int .i64 J.hi, .int .i64 J.st] 28)).heap.size := by simp; omega
    have lD4 : D < (w3.alloc (.cells #[.int .i64 J.lo, .int .i64 J.hi, .int .i64 J.st] 28)).heap.size := by simp; omega
    have lE4 : E < (w3.alloc (.cells #[.int .i64 J.lo, .int .i64 J.hi, .int .i64 J.st] 28)).heap.size := by simp; omega
    have lA5 : A ≠ w3.heap.size := by omega
    generalize w3.alloc _ = w4 at *
    generalize w3.heap.size = M at *
    clear fA fD fE cA cD cE cA3 cD3 cE3 hB hB2 lA lD lE lA3 lD3 lE3 hz lA5 w3
    refine Mild.region_mild 50 [] (OC w A D E M p q r J) (by kernel_rfl) 123 (by kernel_rfl) rfl (by simp) Mild.Cls.closed HC.out (by simp) ?H6
    apply Exists.intro
    refine ⟨?HW6, ?HT6⟩
    case HW6 =>
      intro W hW
      have hWc := hW.cells
      simp only [List.forall_mem_cons, List.not_mem_nil, false_imp_iff, implies_true, and_true] at hWc
      obtain ⟨g0, g1, g2, g3, g4, g5, g6, g7, g8, g9, g10, g11⟩ := hWc
      clear hW
      simp only [List.take_succ_cons, List.take_zero]
      repeat (apply Mild.walkM_q rfl; (go_wp2_with (first | (go_at_call 23; (with_reducible refine (join_any q p _ hq.bd hp.bd).mono ?_); rw [E1.out]; rintro e w1 ⟨rfl, hb⟩) | (go_at_call 23; (with_reducible refine (join_any p p _ hp.bd hp.bd).mono ?_); rw [E2.out]; rintro e w1 ⟨rfl, hb⟩) | (go_at_call 12; (with_reducible refine (lmeet_any p p _ hp hp (by omega) (by omega)).mono ?_); rw [E3.out]; rintro e w1 ⟨rfl, hb⟩) | (go_at_call 23; (with_reducible refine (join_any J r _ hJ.bd hr.bd).mono ?_); rintro e w1 ⟨rfl, hb⟩) | (go_at_call 23; (with_reducible refine (join_any q r _ hq.bd hr.bd).mono ?_); rw [← HK.out]; rintro e w1 ⟨rfl, hb⟩) | (go_at_call 23; (with_reducible refine (join_any p K _ hp.bd hK.bd).mono ?_); rw [E5.out]; rintro e w1 ⟨rfl, hb⟩) | (go_at_call 12; (with_reducible refine (lmeet_any p J _ hp hJ (by omega) (by omega)).mono ?_); rw [E6.out]; rintro e w1 ⟨rfl, hb⟩) | (go_at_call 20; (with_reducible refine (inside_any p J _ hJ.bd.st0 hJ.pos (by omega) (by omega) (by omega) (by omega) (by omega) (by omega) (by omega)).mono ?_); rw [I1.out]; rintro e w1 ⟨rfl, hb⟩) | (go_at_call 20; (with_reducible refine (inside_any q J _ hJ.bd.st0 hJ.pos (by omega) (by omega) (by omega) (by omega) (by omega) (by omega) (by omega)).mono ?_); rw [I2.out]; rintro e w1 ⟨rfl, hb⟩))); (first | refine ⟨rfl, rfl, Below.refl _ _, ?_⟩ | refine ⟨rfl, rfl, hb, ?_⟩))
      exact Mild.walkM_end rfl
    case HT6 =>
      intro F w5 hC x1 x2
      clear x1 x2
      simp only [List.drop_succ_cons, List.drop_zero, Mild.putAll, List.foldl_cons, List.foldl_nil, Act.put, List.setIfInBounds_toArray, List.set_cons_zero, List.set_cons_succ]
      clear F HC lM3 lA4 lD4 lE4 w4
      have HC := Lib.hid hC; clear hC
      go_wp2_with fail
      have mset := MS.out; have nset := NS.out; have asso := AS.out
      obtain ⟨m, hm⟩ : ∃ m, m = meetM p q := ⟨_, rfl⟩
      obtain ⟨n, hn⟩ : ∃ n, n = meetM q r := ⟨_, rfl⟩
      rw [← hm] at mset asso
      rw [← hn] at nset asso
      have HM := Lib.hid hm; have HN := Lib.hid hn
      clear hm hn
      have mv : Hid (m.2 = true → Vld m.1 ∧ m.1.st ≤ 2147483648 ∧ joinM p m.1 = p ∧ meetM p m.1 = (m.1, true)) := Lib.hid fun h => by
        obtain ⟨v, e⟩ := mset.1 h
        have hs : Sub m.1 p := fun x hx => ((e x).1 hx).1
        exact ⟨v, st_le_of_sub v hp hs (by omega), M0.out _ v hs, M1.out _ v hs⟩
      have nv : Hid (n.2 = true → Vld n.1 ∧ n.1.st ≤ 2147483648) := Lib.hid fun h => by
        obtain ⟨v, e⟩ := nset.1 h
        exact ⟨v, st_le_of_sub v hq (fun x hx => ((e x).1 hx).1) (by omega)⟩
      have AS2 := Lib.hid asso
      clear mset nset asso AS MS NS M0 M1
      refine Mild.region_mild 8 [⟨6, 12, zmet⟩, ⟨7, 13, zmet⟩] (OC w A D E M p q r J) (by kernel_rfl) 123 (by kernel_rfl) rfl (by simp) Mild.Cls.closed HC.out ?HM8 ?H8
      case HM8 => simp; exact ⟨mk31 _ _ _ _ _, mk31 _ _ _ _ _⟩
      apply Exists.intro
      refine ⟨?HW8, ?HT8⟩
      case HW8 =>
        intro W hW
        have hWc := hW.cells
        simp only [List.forall_mem_cons, List.not_mem_nil, false_imp_iff, implies_true, and_true] at hWc
        obtain ⟨g0, g1, g2, g3, g4, g5, g6, g7, g8, g9, g10, g11⟩ := hWc
        clear hW
        simp only [List.take_succ_cons, List.take_zero]
        repeat (apply Mild.walkM_q rfl; (go_wp2_with (first | (go_at_call 12; (with_reducible refine (lmeet_any p q _ hp hq (by omega) (by omega)).mono ?_); rw [← HM.out]; rintro e w1 ⟨rfl, hb⟩) | (go_at_call 12; (with_reducible refine (lmeet_any q r _ hq hr (by omega) (by omega)).mono ?_); rw [← HN.out]; rintro e w1 ⟨rfl, hb⟩))); (first | refine ⟨rfl, rfl, Below.refl _ _, ?_⟩ | refine ⟨rfl, rfl, hb, ?_⟩))
        repeat apply Mild.walkM_m rfl
        exact Mild.walkM_end rfl
      case HT8 =>
        intro F w6 hC hheld hinj
        obtain ⟨hP1, hP⟩ := hheld ⟨6, 12, zmet⟩ (by simp)
        obtain ⟨hQ1, hQ⟩ := hheld ⟨7, 13, zmet⟩ (by simp)
        have n7 : F 6 ≠ F 7 := hinj ⟨6, 12, zmet⟩ (by simp) ⟨7, 13, zmet⟩ (by simp) (by decide)
        have n8 := n7.symm
        clear hinj hheld
        simp only [List.drop_succ_cons, List.drop_zero, Mild.putAll, List.foldl_cons, List.foldl_nil, Mild.ptrTo, Act.put, List.setIfInBounds_toArray, List.set_cons_zero, List.set_cons_succ]
        dsimp only at hP1 hP hQ1 hQ
        generalize F 6 = P at *
        generalize F 7 = Q at *
        clear F
        have lP := Mild.lt_of_block hP
        have lQ := Mild.lt_of_block hQ
        have cP := Mild.cell_of_block hP
        have cQ := Mild.cell_of_block hQ
        have fP := Mild.free_of_block hP
        have fQ := Mild.free_of_block hQ
        clear hP hQ
        have l1 := HC.out.cells
        simp only [List.forall_mem_cons, List.not_mem_nil, false_imp_iff, implies_true, and_true] at l1
        have lA := World.block_lt_of_cell? _ _ l1.1
        have lE := World.block_lt_of_cell? _ _ l1.2.2.2.2.2.2.1
        have b5 := HC.out.big
        clear l1
        dsimp only at lA lE
        have hWc := hC.cells
        simp only [List.forall_mem_cons, List.not_mem_nil, false_imp_iff, implies_true, and_true] at hWc
        obtain ⟨g0, g1, g2, g3, g4, g5, g6, g7, g8, g9, g10, g11⟩ := hWc
        have hB6 := hC.below
        have b6 := hC.big
        clear hC HC g3 g4 g5 g9 g10 g11 n1 n4 n3 n6
        have xP : A ≠ P := by omega
        have xQ : A ≠ Q := by omega
        have yP : E ≠ P := by omega
        have yQ : E ≠ Q := by omega
        go_wp2_with fail
        cases hm2 : m.2
        · skip
          refine Mild.region_mild 17 [] (OC2 w A D E P Q p q r m n) (by kernel_rfl) 123 (by kernel_rfl) rfl (by simp) Mild.Cls.closed ?h9a (by simp) ?H9a
          case h9a => exact ⟨by (repeat' (first | (with_reducible exact Below.refl _ _) | (with_reducible assumption) | (with_reducible refine Below.alloc ?_ ?_ _) | (with_reducible refine Below.drew ?_) | (with_reducible refine bdn ?_ _) | (with_reducible refine Below.setCell ?_ ?_ _) | go_size)), by simp; omega, by
            simp only [List.forall_mem_cons, List.not_mem_nil, false_imp_iff, implies_true, and_true]
            simp [*, go_sem]⟩
          apply Exists.intro
          refine ⟨?HW9a, ?HT9a⟩
          case HW9a =>
            intro W hW
            have hWc := hW.cells
            simp only [List.forall_mem_cons, List.not_mem_nil, false_imp_iff, implies_true, and_true] at hWc
            obtain ⟨g0, g1, g2, g3, g4, g5, g6, g7, g8, g9, g10, g11, g12, g13⟩ := hWc
            clear hW
            rw [hm2] at g9
            simp only [List.take_succ_cons, List.take_zero]
            repeat (apply Mild.walkM_q rfl; (go_wp2_with fail); (first | refine ⟨rfl, rfl, Below.refl _ _, ?_⟩ | refine ⟨rfl, rfl, hb, ?_⟩))
            exact Mild.walkM_end rfl
          case HT9a =>
            intro F w8 hC x1 x2
            clear x1 x2
            simp only [List.drop_succ_cons, List.drop_zero, Mild.putAll, List.foldl_cons, List.foldl_nil, Act.put, List.setIfInBounds_toArray, List.set_cons_zero, List.set_cons_succ]
            clear F g0 g1 g2 g6 g7 g8
            have hWc := hC.cells
            simp only [List.forall_mem_cons, List.not_mem_nil, false_imp_iff, implies_true, and_true] at hWc
            obtain ⟨g0, g1, g2, g3, g4, g5, g6, g7, g8, g9, g10, g11, g12, g13⟩ := hWc
            have hB8 := hC.below
            have b8 := hC.big
            clear hC hB6 fP fQ cP cQ lP lQ lA lE b5 b6 hP1 hQ1 xP xQ yP yQ w6 w5
            have lA8 := World.block_lt_of_cell? _ _ g0
            have lE8 := World.block_lt_of_cell? _ _ g3
            have lP8 := World.block_lt_of_cell? _ _ g6
            have lQ8 := World.block_lt_of_cell? _ _ g10
            dsimp only at lA8 lE8 lP8 lQ8
            have xA : A ≠ w8.heap.size := by omega
            have xE : E ≠ w8.heap.size := by omega
            have xP : P ≠ w8.heap.size := by omega
            have xQ : Q ≠ w8.heap.size := by omega
            have yA : A ≠ w8.heap.size + 1 := by omega
            have yE : E ≠ w8.heap.size + 1 := by omega
            have yP : P ≠ w8.heap.size + 1 := by omega
            have yQ : Q ≠ w8.heap.size + 1 := by omega
            rw [hm2] at g9
            cases hn2 : n.2
            · rw [hn2] at g13
              go_wp2_with fail
              go_ret
              exact ⟨rfl, by (repeat' (first | (with_reducible exact Below.refl _ _) | (with_reducible assumption) | (with_reducible refine Below.alloc ?_ ?_ _) | (with_reducible refine Below.drew ?_) | (with_reducible refine bdn ?_ _) | (with_reducible refine Below.setCell ?_ ?_ _) | go_size))⟩
            · rw [hn2] at g13
              obtain ⟨nv1, nv2⟩ := nv.out hn2
              have hX : meetM p n.1 = ((⟨0, 0, 0⟩ : Sp), false) := by
                have := AS2.out
                unfold meet2 at this
                rw [hm2, hn2, if_neg (by decide), if_pos rfl] at this
                exact this.symm
              have HX := Lib.hid hX; clear hX
              go_wp2_with (go_at_call 12; (with_reducible refine (lmeet_any p n.1 _ hp nv1 (by omega) nv2).mono ?_); rw [HX.out]; rintro e w9 ⟨rfl, hb⟩; obtain ⟨hc, hf⟩ := bcell hb; have hz := hb.size; (try simp at hz); have z0 : w8.heap.size < w9.heap.size := (by omega); have c0 := fun o => hc (w8.heap.size) o (by go_size); have f0 := fun o => hf (w8.heap.size) o (by go_size); have z1 : w8.heap.size + 1 < w9.heap.size := (by omega); have c1 := fun o => hc (w8.heap.size + 1) o (by go_size); have f1 := fun o => hf (w8.heap.size + 1) o (by go_size); have hB := bup (B := w.heap.size) (w := w) (by (repeat' (first | (with_reducible exact Below.refl _ _) | (with_reducible assumption) | (with_reducible refine Below.alloc ?_ ?_ _) | (with_reducible refine Below.drew ?_) | (with_reducible refine bdn ?_ _) | (with_reducible refine Below.setCell ?_ ?_ _) | go_size))) hb (by go_size); clear hb; have kA := (fun o => hc A o (by go_size)); have kE := (fun o => hc E o (by go_size)); have kP := (fun o => hc P o (by go_size)); have kQ := (fun o => hc Q o (by go_size)); have lA9 : A < w9.heap.size := (by omega); have lE9 : E < w9.heap.size := (by omega); have lP9 : P < w9.heap.size := (by omega); have lQ9 : Q < w9.heap.size := (by omega); clear hc hf)
              go_ret
              exact ⟨rfl, by (repeat' (first | (with_reducible exact Below.refl _ _) | (with_reducible assumption) | (with_reducible refine Below.alloc ?_ ?_ _) | (with_reducible refine Below.drew ?_) | (with_reducible refine bdn ?_ _) | (with_reducible refine Below.setCell ?_ ?_ _) | go_size))⟩
        · obtain ⟨mv1, mv2, mv3, mv4⟩ := mv.out hm2
          have MV3 := Lib.hid mv3; have MV4 := Lib.hid mv4; clear mv3 mv4
          refine Mild.region_mild 17 [] (OC2 w A D E P Q p q r m n) (by kernel_rfl) 123 (by kernel_rfl) rfl (by simp) Mild.Cls.closed ?h9b (by simp) ?H9b
          case h9b => exact ⟨by (repeat' (first | (with_reducible exact Below.refl _ _) | (with_reducible assumption) | (with_reducible refine Below.alloc ?_ ?_ _) | (with_reducible refine Below.drew ?_) | (with_reducible refine bdn ?_ _) | (with_reducible refine Below.setCell ?_ ?_ _) | go_size)), by simp; omega, by
            simp only [List.forall_mem_cons, List.not_mem_nil, false_imp_iff, implies_true, and_true]
            simp [*, go_sem]⟩
          apply Exists.intro
          refine ⟨?HW9b, ?HT9b⟩
          case HW9b =>
            intro W hW
            have hWc := hW.cells
            simp only [List.forall_mem_cons, List.not_mem_nil, false_imp_iff, implies_true, and_true] at hWc
            obtain ⟨g0, g1, g2, g3, g4, g5, g6, g7, g8, g9, g10, g11, g12, g13⟩ := hWc
            clear hW
            rw [hm2] at g9
            simp only [List.take_succ_cons, List.take_zero]
            repeat (apply Mild.walkM_q rfl; (go_wp2_with (first | (go_at_call 23; (with_reducible refine (join_any p m.1 _ hp.bd mv1.bd).mono ?_); rw [MV3.out]; rintro e w1 ⟨rfl, hb⟩) | (go_at_call 12; (with_reducible refine (lmeet_any p m.1 _ hp mv1 (by omega) mv2).mono ?_); rw [MV4.out]; rintro e w1 ⟨rfl, hb⟩))); (first | refine ⟨rfl, rfl, Below.refl _ _, ?_⟩ | refine ⟨rfl, rfl, hb, ?_⟩))
            exact Mild.walkM_end rfl
          case HT9b =>
            intro F w8 hC x1 x2
            clear x1 x2
            simp only [List.drop_succ_cons, List.drop_zero, Mild.putAll, List.foldl_cons, List.foldl_nil, Act.put, List.setIfInBounds_toArray, List.set_cons_zero, List.set_cons_succ]
            clear F g0 g1 g2 g6 g7 g8
            have hWc := hC.cells
            simp only [List.forall_mem_cons, List.not_mem_nil, false_imp_iff, implies_true, and_true] at hWc
            obtain ⟨g0, g1, g2, g3, g4, g5, g6, g7, g8, g9, g10, g11, g12, g13⟩ := hWc
            have hB8 := hC.below
            have b8 := hC.big
            clear hC hB6 fP fQ cP cQ lP lQ lA lE b5 b6 hP1 hQ1 xP xQ yP yQ w6 w5
            have lA8 := World.block_lt_of_cell? _ _ g0
            have lE8 := World.block_lt_of_cell? _ _ g3
            have lP8 := World.block_lt_of_cell? _ _ g6
            have lQ8 := World.block_lt_of_cell? _ _ g10
            dsimp only at lA8 lE8 lP8 lQ8
            have xA : A ≠ w8.heap.size := by omega
            have xE : E ≠ w8.heap.size := by omega
            have xP : P ≠ w8.heap.size := by omega
            have xQ : Q ≠ w8.heap.size := by omega
            have yA : A ≠ w8.heap.size + 1 := by omega
            have yE : E ≠ w8.heap.size + 1 := by omega
            have yP : P ≠ w8.heap.size + 1 := by omega
            have yQ : Q ≠ w8.heap.size + 1 := by omega
            rw [hm2] at g9
            cases hn2 : n.2
            · rw [hn2] at g13
              have hX : meetM m.1 r = ((⟨0, 0, 0⟩ : Sp), false) := by
                have := AS2.out
                unfold meet2 at this
                rw [hm2, hn2, if_pos rfl, if_neg (by decide)] at this
                exact this
              have HX := Lib.hid hX; clear hX
              go_wp2_with (go_at_call 12; (with_reducible refine (lmeet_any m.1 r _ mv1 hr mv2 (by omega)).mono ?_); rw [HX.out]; rintro e w9 ⟨rfl, hb⟩; obtain ⟨hc, hf⟩ := bcell hb; have hz := hb.size; (try simp at hz); have z0 : w8.heap.size < w9.heap.size := (by omega); have c0 := fun o => hc (w8.heap.size) o (by go_size); have f0 := fun o => hf (w8.heap.size) o (by go_size); have z1 : w8.heap.size + 1 < w9.heap.size := (by omega); have c1 := fun o => hc (w8.heap.size + 1) o (by go_size); have f1 := fun o => hf (w8.heap.size + 1) o (by go_size); have hB := bup (B := w.heap.size) (w := w) (by (repeat' (first | (with_reducible exact Below.refl _ _) | (with_reducible assumption) | (with_reducible refine Below.alloc ?_ ?_ _) | (with_reducible refine Below.drew ?_) | (with_reducible refine bdn ?_ _) | (with_reducible refine Below.setCell ?_ ?_ _) | go_size))) hb (by go_size); clear hb; have kA := (fun o => hc A o (by go_size)); have kE := (fun o => hc E o (by go_size)); have kP := (fun o => hc P o (by go_size)); have kQ := (fun o => hc Q o (by go_size)); have lA9 : A < w9.heap.size := (by omega); have lE9 : E < w9.heap.size := (by omega); have lP9 : P < w9.heap.size := (by omega); have lQ9 : Q < w9.heap.size := (by omega); clear hc hf)
              go_ret
              exact ⟨rfl, by (repeat' (first | (with_reducible exact Below.refl _ _) | (with_reducible assumption) | (with_reducible refine Below.alloc ?_ ?_ _) | (with_reducible refine Below.drew ?_) | (with_reducible refine bdn ?_ _) | (with_reducible refine Below.setCell ?_ ?_ _) | go_size))⟩
            · rw [hn2] at g13
              obtain ⟨nv1, nv2⟩ := nv.out hn2
              have hX : meetM m.1 r = meetM p n.1 := by
                have := AS2.out
                unfold meet2 at this
                rw [hm2, hn2, if_pos rfl, if_pos rfl] at this
                exact this
              have HX := Lib.hid hX; clear hX
              go_wp2_with (first | (go_at_call 12; (with_reducible refine (lmeet_any m.1 r _ mv1 hr mv2 (by omega)).mono ?_); rw [HX.out]; rintro e w9 ⟨rfl, hb⟩; obtain ⟨hc, hf⟩ := bcell hb; have hz := hb.size; (try simp at hz); have z0 : w8.heap.size < w9.heap.size := (by omega); have c0 := fun o => hc (w8.heap.size) o (by go_size); have f0 := fun o => hf (w8.heap.size) o (by go_size); have z1 : w8.heap.size + 1 < w9.heap.size := (by omega); have c1 := fun o => hc (w8.heap.size + 1) o (by go_size); have f1 := fun o => hf (w8.heap.size + 1) o (by go_size); have hB := bup (B := w.heap.size) (w := w) (by (repeat' (first | (with_reducible exact Below.refl _ _) | (with_reducible assumption) | (with_reducible refine Below.alloc ?_ ?_ _) | (with_reducible refine Below.drew ?_) | (with_reducible refine bdn ?_ _) | (with_reducible refine Below.setCell ?_ ?_ _) | go_size))) hb (by go_size); clear hb; have kA := (fun o => hc A o (by go_size)); have kE := (fun o => hc E o (by go_size)); have kP := (fun o => hc P o (by go_size)); have kQ := (fun o => hc Q o (by go_size)); have lA9 : A < w9.heap.size := (by omega); have lE9 : E < w9.heap.size := (by omega); have lP9 : P < w9.heap.size := (by omega); have lQ9 : Q < w9.heap.size := (by omega); clear hc hf) | (go_at_call 12; (with_reducible refine (lmeet_any p n.1 _ hp nv1 (by omega) nv2).mono ?_); rintro e w9 ⟨rfl, hb⟩; obtain ⟨hc, hf⟩ := bcell hb; have hz := hb.size; (try simp at hz); have z0 : w8.heap.size < w9.heap.size := (by omega); have c0 := fun o => hc (w8.heap.size) o (by go_size); have f0 := fun o => hf (w8.heap.size) o (by go_size); have z1 : w8.heap.size + 1 < w9.heap.size := (by omega); have c1 := fun o => hc (w8.heap.size + 1) o (by go_size); have f1 := fun o => hf (w8.heap.size + 1) o (by go_size); have hB := bup (B := w.heap.size) (w := w) (by (repeat' (first | (with_reducible exact Below.refl _ _) | (with_reducible assumption) | (with_reducible refine Below.alloc ?_ ?_ _) | (with_reducible refine Below.drew ?_) | (with_reducible refine bdn ?_ _) | (with_reducible refine Below.setCell ?_ ?_ _) | go_size))) hb (by go_size); clear hb; have kA := (fun o => hc A o (by go_size)); have kE := (fun o => hc E o (by go_size)); have kP := (fun o => hc P o (by go_size)); have kQ := (fun o => hc Q o (by go_size)); have lA9 : A < w9.heap.size := (by omega); have lE9 : E < w9.heap.size := (by omega); have lP9 : P < w9.heap.size := (by omega); have lQ9 : Q < w9.heap.size := (by omega); clear hc hf))
              go_ret
              exact ⟨rfl, by (repeat' (first | (with_reducible exact Below.refl _ _) | (with_reducible assumption) | (with_reducible refine Below.alloc ?_ ?_ _) | (with_reducible refine Below.drew ?_) | (with_reducible refine bdn ?_ _) | (with_reducible refine Below.setCell ?_ ?_ _) | go_size))⟩
end Go.Proofs.Ytnihhchgnkfcgaa
