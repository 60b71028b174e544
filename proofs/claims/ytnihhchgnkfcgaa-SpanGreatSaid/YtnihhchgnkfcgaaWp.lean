/- The walk of SpanGreat. -/
import Derived.Test.YtnihhchgnkfcgaaCe
import Derived.Test.YtnihhchgnkfcgaaPh
import Derived.Test.YtnihhchgnkfcgaaWo
import Derived.Test.YtnihhchgnkfcgaaWpt
import Derived.Deep.DeepCutAuto
-- USEBDN
set_option linter.unusedSimpArgs false
set_option linter.unusedVariables false
namespace Go.Proofs.Ytnihhchgnkfcgaa
open Go.ChangeShapes Go.WideShapes Go.ChangeAt Go.RowKit
abbrev GB (w : World) (A D N : Nat) (p q : Sp) (n0 n1 : Int) : World → Prop := Mild.Cls w.heap.size w [(⟨A, 0, none⟩, .int .i64 p.lo), (⟨A, 1, none⟩, .int .i64 p.hi), (⟨A, 2, none⟩, .int .i64 p.st), (⟨D, 0, none⟩, .int .i64 q.lo), (⟨D, 1, none⟩, .int .i64 q.hi), (⟨D, 2, none⟩, .int .i64 q.st), (⟨N, 0, none⟩, .int .u16 n0), (⟨N, 1, none⟩, .int .u16 n1)]
abbrev GC (w : World) (A D N M : Nat) (p q mv : Sp) (n0 n1 : Int) : World → Prop := Mild.Cls w.heap.size w [(⟨A, 0, none⟩, .int .i64 p.lo), (⟨A, 1, none⟩, .int .i64 p.hi), (⟨A, 2, none⟩, .int .i64 p.st), (⟨D, 0, none⟩, .int .i64 q.lo), (⟨D, 1, none⟩, .int .i64 q.hi), (⟨D, 2, none⟩, .int .i64 q.st), (⟨N, 0, none⟩, .int .u16 n0), (⟨N, 1, none⟩, .int .u16 n1), (⟨M, 0, none⟩, .int .i64 mv.lo), (⟨M, 1, none⟩, .int .i64 mv.hi), (⟨M, 2, none⟩, .int .i64 mv.st)]
abbrev GD (w : World) (A D N M Z : Nat) (p q mv : Sp) (n0 n1 : Int) (m : Sp × Bool) : World → Prop := Mild.Cls w.heap.size w [(⟨A, 0, none⟩, .int .i64 p.lo), (⟨A, 1, none⟩, .int .i64 p.hi), (⟨A, 2, none⟩, .int .i64 p.st), (⟨D, 0, none⟩, .int .i64 q.lo), (⟨D, 1, none⟩, .int .i64 q.hi), (⟨D, 2, none⟩, .int .i64 q.st), (⟨N, 0, none⟩, .int .u16 n0), (⟨N, 1, none⟩, .int .u16 n1), (⟨M, 0, none⟩, .int .i64 mv.lo), (⟨M, 1, none⟩, .int .i64 mv.hi), (⟨M, 2, none⟩, .int .i64 mv.st), (⟨Z, 0, none⟩, .int .i64 m.1.lo), (⟨Z, 1, none⟩, .int .i64 m.1.hi), (⟨Z, 2, none⟩, .int .i64 m.1.st), (⟨Z, 3, none⟩, .bool true)]
theorem cls_less {B : Nat} {w0 : World} {cs cs' : List (Addr × Value)} {W : World} (h : Mild.Cls B w0 cs W) (hs : ∀ p ∈ cs', p ∈ cs) : Mild.Cls B w0 cs' W := ⟨h.below, h.big, fun p hp => h.cells p (hs p hp)⟩

set_option maxRecDepth 100000 in
set_option maxHeartbeats 8000000 in
theorem great_any (xa xb xc ya yb yc n0 n1 : Int) (w : World) (hx : RawB xa xb xc) (hy : RawB ya yb yc) (h00 : 0 ≤ n0) (h01 : n0 ≤ 65535) (h10 : 0 ≤ n1) (h11 : n1 ≤ 65535) :
    Calls Try.prog 4 #[rawv xa xb xc, rawv ya yb yc, .agg #[.int .u16 n0, .int .u16 n1]] w fun e w' => e = .returned (.bool true) ∧ Below w.heap.size w w' := by
  go_enter Try.func4, Try.ntmps4
  go_wp2_with (first | (go_at_call 10; refine (examples_any _).mono ?_; rintro e w1 ⟨rfl, hb⟩; obtain ⟨hc, hf⟩ := bcell hb; have hz := hb.size; (try simp at hz); have z0 : w.heap.size < w1.heap.size := (by omega); have c0 := fun o => hc (w.heap.size) o (by go_size); have f0 := fun o => hf (w.heap.size) o (by go_size); have z1 : w.heap.size + 1 < w1.heap.size := (by omega); have c1 := fun o => hc (w.heap.size + 1) o (by go_size); have f1 := fun o => hf (w.heap.size + 1) o (by go_size); have z2 : w.heap.size + 2 < w1.heap.size := (by omega); have c2 := fun o => hc (w.heap.size + 2) o (by go_size); have f2 := fun o => hf (w.heap.size + 2) o (by go_size); clear hc hf; have hB := bup (B := w.heap.size) (w := w) (by (repeat' (first | (with_reducible exact Below.refl _ _) | (with_reducible assumption) | (with_reducible refine Below.alloc ?_ ?_ _) | (with_reducible refine Below.drew ?_) | (with_reducible refine bdn ?_ _) | (with_reducible refine Below.setCell ?_ ?_ _) | go_size))) hb (by go_size); clear hb))
  refine Mild.region_mild 6 [⟨4, 8, zobj⟩, ⟨5, 9, zobj⟩] (Mild.Cls w.heap.size w [(⟨w.heap.size, 0, none⟩, .int .i64 xa), (⟨w.heap.size, 1, none⟩, .int .u32 xb), (⟨w.heap.size, 2, none⟩, .int .u16 xc), (⟨w.heap.size + 1, 0, none⟩, .int .i64 ya), (⟨w.heap.size + 1, 1, none⟩, .int .u32 yb), (⟨w.heap.size + 1, 2, none⟩, .int .u16 yc), (⟨w.heap.size + 2, 0, none⟩, .int .u16 n0), (⟨w.heap.size + 2, 1, none⟩, .int .u16 n1)]) (by kernel_rfl) 121 (by kernel_rfl) rfl (by simp) Mild.Cls.closed ?h0 ?HM ?H
  case h0 => exact ⟨by (repeat' (first | (with_reducible exact Below.refl _ _) | (with_reducible assumption) | (with_reducible refine Below.alloc ?_ ?_ _) | (with_reducible refine Below.drew ?_) | (with_reducible refine bdn ?_ _) | (with_reducible refine Below.setCell ?_ ?_ _) | go_size)), by omega, by simp [*, go_sem]⟩
  case HM => simp; exact ⟨mk28 _ _ _ _ _, mk28 _ _ _ _ _⟩
  apply Exists.intro
  refine ⟨?HW, ?HT⟩
  case HW =>
    intro W hW
    have hWc := hW.cells; simp only [List.forall_mem_cons, List.not_mem_nil, false_imp_iff, implies_true, and_true] at hWc; obtain ⟨g0, g1, g2, g3, g4, g5, g6, g7⟩ := hWc
    clear hW
    simp only [List.take_succ_cons, List.take_zero]
    repeat (apply Mild.walkM_q rfl; (go_wp2_with (first | (go_at_call 17; (with_reducible refine (span_any xa xb xc _ hx.a1 hx.a2 hx.b1 hx.b2 hx.c1 hx.c2).mono ?_); rintro e w1 ⟨rfl, hb⟩) | (go_at_call 17; (with_reducible refine (span_any ya yb yc _ hy.a1 hy.a2 hy.b1 hy.b2 hy.c1 hy.c2).mono ?_); rintro e w1 ⟨rfl, hb⟩))); (first | refine ⟨rfl, rfl, Below.refl _ _, ?_⟩ | refine ⟨rfl, rfl, hb, ?_⟩))
    repeat apply Mild.walkM_m rfl
    exact Mild.walkM_end rfl
  case HT =>
    intro F w2 hC hheld hinj
    obtain ⟨hA1, hA⟩ := hheld ⟨4, 8, zobj⟩ (by simp)
    obtain ⟨hD1, hD⟩ := hheld ⟨5, 9, zobj⟩ (by simp)
    have k1 : F 4 ≠ F 5 := hinj ⟨4, 8, zobj⟩ (by simp) ⟨5, 9, zobj⟩ (by simp) (by decide)
    have k2 := k1.symm
    clear hinj hheld
    simp only [List.drop_succ_cons, List.drop_zero, Mild.putAll, List.foldl_cons, List.foldl_nil, Mild.ptrTo, Act.put, List.setIfInBounds_toArray, List.set_cons_zero, List.set_cons_succ]
    dsimp only at hA1 hA hD1 hD
    generalize F 4 = A at *
    generalize F 5 = D at *
    clear F
    have lA := Mild.lt_of_block hA
    have lD := Mild.lt_of_block hD
    have hB2 : Below w.heap.size w w2 := hC.below
    have b2 := hC.big
    have cA := Mild.cell_of_block hA
    have cD := Mild.cell_of_block hD
    have fA := Mild.free_of_block hA
    have fD := Mild.free_of_block hD
    have hWc := hC.cells; simp only [List.forall_mem_cons, List.not_mem_nil, false_imp_iff, implies_true, and_true] at hWc; obtain ⟨g0, g1, g2, g3, g4, g5, g6, g7⟩ := hWc
    clear hC hA hD hB g0 g1 g2 g3 g4 g5
    have k3 : A ≠ w.heap.size + 2 := (by omega)
    have k4 : D ≠ w.heap.size + 2 := (by omega)
    have k5 := k3.symm
    have k6 := k4.symm
    have lA1 : w.heap.size ≤ A := (by omega)
    have lD1 : w.heap.size ≤ D := (by omega)
    clear c0 f0 c1 f1 z0 z1 z2 c2 f2 hz hA1 hD1 w1
    have hp := span_vld xa xb xc
    have hq := span_vld ya yb yc
    have bp := span_bd xa xb xc
    have bq := span_bd ya yb yc
    generalize spanM xa xb xc = p at *
    generalize spanM ya yb yc = q at *
    have lp := hp.le; have lq := hq.le
    have px := pick_mem hp n0
    have py := pick_mem hq n1
    obtain ⟨x, hxe⟩ : ∃ x, x = pickM p n0 := ⟨_, rfl⟩
    obtain ⟨y, hye⟩ : ∃ y, y = pickM q n1 := ⟨_, rfl⟩
    rw [← hxe] at px
    rw [← hye] at py
    have HX := Lib.hid hxe; have HY := Lib.hid hye
    clear hxe hye
    have x1 := px.1; have x2 := px.2.1; have y1 := py.1; have y2 := py.2.1
    go_wp2_with fail
    refine Mild.region_mild 9 [] (GB w A D (w.heap.size + 2) p q n0 n1) (by kernel_rfl) 121 (by kernel_rfl) rfl (by simp) Mild.Cls.closed ?h5 (by simp) ?H5
    case h5 => exact ⟨by (repeat' (first | (with_reducible exact Below.refl _ _) | (with_reducible assumption) | (with_reducible refine Below.alloc ?_ ?_ _) | (with_reducible refine Below.drew ?_) | (with_reducible refine bdn ?_ _) | (with_reducible refine Below.setCell ?_ ?_ _) | go_size)), by simp; omega, (by (simp only [List.forall_mem_cons, List.not_mem_nil, false_imp_iff, implies_true, and_true]); simp [*, go_sem])⟩
    apply Exists.intro
    refine ⟨?HW5, ?HT5⟩
    case HW5 =>
      intro W hW
      have hWc := hW.cells; simp only [List.forall_mem_cons, List.not_mem_nil, false_imp_iff, implies_true, and_true] at hWc; obtain ⟨g0, g1, g2, g3, g4, g5, g6, g7⟩ := hWc
      clear hW
      simp only [List.take_succ_cons, List.take_zero]
      repeat (apply Mild.walkM_q rfl; (go_wp2_with (first | (go_at_call 18; (with_reducible refine (pick_any p n0 _ h00 h01 hp.st0 hp.le (by omega) (by omega) (by omega)).mono ?_); rw [← HX.out]; rintro e w1 ⟨rfl, hb⟩) | (go_at_call 18; (with_reducible refine (pick_any q n1 _ h10 h11 hq.st0 hq.le (by omega) (by omega) (by omega)).mono ?_); rw [← HY.out]; rintro e w1 ⟨rfl, hb⟩))); (first | refine ⟨rfl, rfl, Below.refl _ _, ?_⟩ | refine ⟨rfl, rfl, hb, ?_⟩))
      exact Mild.walkM_end rfl
    case HT5 =>
      intro F w5 hC u1 u2
      clear u1 u2
      simp only [List.drop_succ_cons, List.drop_zero, Mild.putAll, List.foldl_cons, List.foldl_nil, Mild.ptrTo, Act.put, List.setIfInBounds_toArray, List.set_cons_zero, List.set_cons_succ]
      clear F g6 g7 cA cD fA fD lA lD hB2 b2
      have hWc := hC.cells; simp only [List.forall_mem_cons, List.not_mem_nil, false_imp_iff, implies_true, and_true] at hWc; obtain ⟨g0, g1, g2, g3, g4, g5, g6, g7⟩ := hWc
      have hB5 := hC.below
      have b5 := hC.big
      clear hC
      have lA := World.block_lt_of_cell? _ _ g0
      have lD := World.block_lt_of_cell? _ _ g3
      have lN := World.block_lt_of_cell? _ _ g6
      dsimp only at lA lD lN
      have hmx := mem_moved (d := x - y) py
      have ex : y + (x - y) = x := by omega
      rw [ex] at hmx
      clear ex
      have GS : Hid (Vld ⟨q.lo + (x - y), q.hi + (x - y), q.st⟩ → (meetM p ⟨q.lo + (x - y), q.hi + (x - y), q.st⟩).2 = true ∧ hasB (meetM p ⟨q.lo + (x - y), q.hi + (x - y), q.st⟩).1 x = true ∧ insideB (meetM p ⟨q.lo + (x - y), q.hi + (x - y), q.st⟩).1 p = true ∧ insideB (meetM p ⟨q.lo + (x - y), q.hi + (x - y), q.st⟩).1 ⟨q.lo + (x - y), q.hi + (x - y), q.st⟩ = true ∧ Vld (meetM p ⟨q.lo + (x - y), q.hi + (x - y), q.st⟩).1) := Lib.hid fun hm => great_meet hp hm (by omega) (by dsimp only; omega) px hmx
      clear px py hmx
      go_upto_region 7 with fail
      rename_i K1 hK1 K2 hK2
      have HK : ∀ (x0 x1 x2 x3 x4 x5 x10 x11 x12 x13 x14 x15 x16 x17 x18 x19 x20 x21 x22 x23 x24 x25 x26 x27 x28 x29 x30 x31 x32 x33 x34 x35 x36 x37 x38 x39 x40 x41 x42 x43 x44 x45 x46 x47 x48 x49 x50 x51 x52 x53 x54 x55 x56 x57 x58 x59 x60 x61 x62 x63 x64 x65 x66 x67 x68 x69 x70 x71 x72 x73 x74 x75 x76 x77 x78 x79 x80 x81 x82 x83 x84 x85 x86 x87 x88 x89 x90 x91 x92 x93 x94 x95 x96 x97 x98 x99 x100 x101 x102 x103 x104 x105 x106 x107 x108 x109 x110 x111 x112 x113 x114 x115 x116 x117 x118 x119 x120 : Value) (W : World), Hid (GE w A D p q W) → K1 ⟨List.toArray (x0 :: x1 :: x2 :: x3 :: x4 :: x5 :: .bool false :: .bool true :: .pointer (some ⟨A, 0, none⟩) :: .pointer (some ⟨D, 0, none⟩) :: x10 :: x11 :: x12 :: x13 :: x14 :: x15 :: x16 :: x17 :: x18 :: x19 :: x20 :: x21 :: x22 :: x23 :: x24 :: x25 :: x26 :: x27 :: x28 :: x29 :: x30 :: x31 :: x32 :: x33 :: x34 :: x35 :: x36 :: x37 :: x38 :: x39 :: x40 :: x41 :: x42 :: x43 :: x44 :: x45 :: x46 :: x47 :: x48 :: x49 :: x50 :: x51 :: x52 :: x53 :: x54 :: x55 :: x56 :: x57 :: x58 :: x59 :: x60 :: x61 :: x62 :: x63 :: x64 :: x65 :: x66 :: x67 :: x68 :: x69 :: x70 :: x71 :: x72 :: x73 :: x74 :: x75 :: x76 :: x77 :: x78 :: x79 :: x80 :: x81 :: x82 :: x83 :: x84 :: x85 :: x86 :: x87 :: x88 :: x89 :: x90 :: x91 :: x92 :: x93 :: x94 :: x95 :: x96 :: x97 :: x98 :: x99 :: x100 :: x101 :: x102 :: x103 :: x104 :: x105 :: x106 :: x107 :: x108 :: x109 :: x110 :: x111 :: x112 :: x113 :: x114 :: x115 :: x116 :: x117 :: x118 :: x119 :: x120 :: []), []⟩ W := fun x0 x1 x2 x3 x4 x5 x10 x11 x12 x13 x14 x15 x16 x17 x18 x19 x20 x21 x22 x23 x24 x25 x26 x27 x28 x29 x30 x31 x32 x33 x34 x35 x36 x37 x38 x39 x40 x41 x42 x43 x44 x45 x46 x47 x48 x49 x50 x51 x52 x53 x54 x55 x56 x57 x58 x59 x60 x61 x62 x63 x64 x65 x66 x67 x68 x69 x70 x71 x72 x73 x74 x75 x76 x77 x78 x79 x80 x81 x82 x83 x84 x85 x86 x87 x88 x89 x90 x91 x92 x93 x94 x95 x96 x97 x98 x99 x100 x101 x102 x103 x104 x105 x106 x107 x108 x109 x110 x111 x112 x113 x114 x115 x116 x117 x118 x119 x120 W h => hK1 _ _ (great_tail_any w W A D p q x0 x1 x2 x3 x4 x5 x10 x11 x12 x13 x14 x15 x16 x17 x18 x19 x20 x21 x22 x23 x24 x25 x26 x27 x28 x29 x30 x31 x32 x33 x34 x35 x36 x37 x38 x39 x40 x41 x42 x43 x44 x45 x46 x47 x48 x49 x50 x51 x52 x53 x54 x55 x56 x57 x58 x59 x60 x61 x62 x63 x64 x65 x66 x67 x68 x69 x70 x71 x72 x73 x74 x75 x76 x77 x78 x79 x80 x81 x82 x83 x84 x85 x86 x87 x88 x89 x90 x91 x92 x93 x94 x95 x96 x97 x98 x99 x100 x101 x102 x103 x104 x105 x106 x107 x108 x109 x110 x111 x112 x113 x114 x115 x116 x117 x118 x119 x120 h.out hp hq (by omega) (by omega))
      clear hK1
      cases hvb : vldB ⟨q.lo + (x - y), q.hi + (x - y), q.st⟩
      · go_wp2_with (first | (go_at_call 19; (with_reducible refine (rvalid_any ⟨q.lo + (x - y), q.hi + (x - y), q.st⟩ _).mono ?_); rw [hvb]; rintro e w6 ⟨rfl, hb⟩; have HE : Hid (GE w A D p q w6) := Lib.hid (Mild.Cls.closed _ _ ⟨by (repeat' (first | (with_reducible exact Below.refl _ _) | (with_reducible assumption) | (with_reducible refine Below.alloc ?_ ?_ _) | (with_reducible refine Below.drew ?_) | (with_reducible refine bdn ?_ _) | (with_reducible refine Below.setCell ?_ ?_ _) | go_size)), by simp; omega, (by (simp only [List.forall_mem_cons, List.not_mem_nil, false_imp_iff, implies_true, and_true]); simp [*, go_sem])⟩ hb); clear g0 g1 g2 g3 g4 g5 g6 g7))
        exact HE
      · have hmv := (vldB_iff _).1 hvb
        obtain ⟨gs1, gs2, gs3, gs4, gs5⟩ := GS.out hmv
        obtain ⟨m, hm⟩ : ∃ m, m = meetM p ⟨q.lo + (x - y), q.hi + (x - y), q.st⟩ := ⟨_, rfl⟩
        rw [← hm] at gs1 gs2 gs3 gs4 gs5
        have HM := Lib.hid hm; have M2 := Lib.hid gs2; have M3 := Lib.hid gs3; have M4 := Lib.hid gs4
        clear hm gs2 gs3 gs4
        have ml := gs5.lo; have mh := gs5.hi; have me := gs5.le; have ms := gs5.stle; have m0 := gs5.st0
        have vl := hmv.lo; have vh := hmv.hi; have vs := hmv.stle; have v0 := hmv.st0; have ve := hmv.le
        dsimp only at vl vh vs v0 ve
        go_wp2_with (first | (go_at_call 19; (with_reducible refine (rvalid_any ⟨q.lo + (x - y), q.hi + (x - y), q.st⟩ _).mono ?_); rw [hvb]; rintro e w6 ⟨rfl, hb⟩; have HC : Hid (GC w A D (w.heap.size + 2) w5.heap.size p q ⟨q.lo + (x - y), q.hi + (x - y), q.st⟩ n0 n1 w6) := Lib.hid (Mild.Cls.closed _ _ ⟨by (repeat' (first | (with_reducible exact Below.refl _ _) | (with_reducible assumption) | (with_reducible refine Below.alloc ?_ ?_ _) | (with_reducible refine Below.drew ?_) | (with_reducible refine bdn ?_ _) | (with_reducible refine Below.setCell ?_ ?_ _) | go_size)), by simp; omega, (by (simp only [List.forall_mem_cons, List.not_mem_nil, false_imp_iff, implies_true, and_true]); simp [*, go_sem])⟩ hb); clear g0 g1 g2 g3 g4 g5 g6 g7; have hWc := HC.out.cells; simp only [List.forall_mem_cons, List.not_mem_nil, false_imp_iff, implies_true, and_true] at hWc; obtain ⟨g0, g1, g2, g3, g4, g5, g6, g7, g8, g9, g10⟩ := hWc) | (go_at_call 12; (with_reducible refine (lmeet_any p ⟨q.lo + (x - y), q.hi + (x - y), q.st⟩ _ hp hmv (by omega) (by dsimp only; omega)).mono ?_); rw [← HM.out]; rintro e w7 ⟨rfl, hb⟩; replace HC := Lib.hid (Mild.Cls.closed _ _ HC.out hb); clear g0 g1 g2 g3 g4 g5 g6 g7 g8 g9 g10; have hWc := HC.out.cells; simp only [List.forall_mem_cons, List.not_mem_nil, false_imp_iff, implies_true, and_true] at hWc; obtain ⟨g0, g1, g2, g3, g4, g5, g6, g7, g8, g9, g10⟩ := hWc))
        have lA7 := World.block_lt_of_cell? _ _ g0
        have lD7 := World.block_lt_of_cell? _ _ g3
        have lN7 := World.block_lt_of_cell? _ _ g6
        have lM7 := World.block_lt_of_cell? _ _ g8
        dsimp only at lA7 lD7 lN7 lM7
        have hB7 := HC.out.below
        have b7 := HC.out.big
        refine Mild.region_mild 31 [] (GD w A D (w.heap.size + 2) w5.heap.size w7.heap.size p q ⟨q.lo + (x - y), q.hi + (x - y), q.st⟩ n0 n1 m) (by kernel_rfl) 121 (by kernel_rfl) rfl (by simp) Mild.Cls.closed ?h9 (by simp) ?H9
        case h9 => exact ⟨by (repeat' (first | (with_reducible exact Below.refl _ _) | (with_reducible assumption) | (with_reducible refine Below.alloc ?_ ?_ _) | (with_reducible refine Below.drew ?_) | (with_reducible refine bdn ?_ _) | (with_reducible refine Below.setCell ?_ ?_ _) | go_size)), by simp; omega, (by (simp only [List.forall_mem_cons, List.not_mem_nil, false_imp_iff, implies_true, and_true]); simp [*, go_sem])⟩
        apply Exists.intro
        refine ⟨?HW9, ?HT9⟩
        case HW9 =>
          intro W hW
          have hWc := hW.cells; simp only [List.forall_mem_cons, List.not_mem_nil, false_imp_iff, implies_true, and_true] at hWc; obtain ⟨g0, g1, g2, g3, g4, g5, g6, g7, g8, g9, g10, g11, g12, g13, g14⟩ := hWc
          clear hW
          simp only [List.take_succ_cons, List.take_zero]
          repeat (apply Mild.walkM_q rfl; (go_wp2_with (first | (go_at_call 18; (with_reducible refine (pick_any p n0 _ h00 h01 hp.st0 hp.le (by omega) (by omega) (by omega)).mono ?_); rw [← HX.out]; rintro e w1 ⟨rfl, hb⟩) | (go_at_call 13; (with_reducible refine (has_any m.1 x _ m0 gs5.pos (by omega) (by omega) (by omega)).mono ?_); rw [M2.out]; rintro e w1 ⟨rfl, hb⟩) | (go_at_call 20; (with_reducible refine (inside_any m.1 p _ hp.st0 hp.pos (by omega) (by omega) (by omega) (by omega) (by omega) (by omega) (by omega)).mono ?_); rw [M3.out]; rintro e w1 ⟨rfl, hb⟩) | (go_at_call 20; (with_reducible refine (inside_any m.1 ⟨q.lo + (x - y), q.hi + (x - y), q.st⟩ _ v0 hmv.pos (by dsimp only; omega) (by dsimp only; omega) (by dsimp only; omega) (by omega) (by omega) (by omega) (by omega)).mono ?_); rw [M4.out]; rintro e w1 ⟨rfl, hb⟩) | (go_at_call 14; (with_reducible refine (apart_any p ⟨q.lo + (x - y), q.hi + (x - y), q.st⟩ _ hp hmv (by omega) (by dsimp only; omega)).mono ?_); rw [← HM.out, gs1]; rintro e w1 ⟨rfl, hb⟩))); (first | refine ⟨rfl, rfl, Below.refl _ _, ?_⟩ | refine ⟨rfl, rfl, hb, ?_⟩))
          exact Mild.walkM_end rfl
        case HT9 =>
          intro F w9 hC u1 u2
          clear u1 u2
          simp only [List.drop_succ_cons, List.drop_zero, Mild.putAll, List.foldl_cons, List.foldl_nil, Mild.ptrTo, Act.put, List.setIfInBounds_toArray, List.set_cons_zero, List.set_cons_succ]
          clear F
          have HE : Hid (GE w A D p q w9) := Lib.hid (cls_less hC (by simp))
          clear hC HC g0 g1 g2 g3 g4 g5 g6 g7 g8 g9 g10
          go_wp2_with fail
          exact HE
end Go.Proofs.Ytnihhchgnkfcgaa
