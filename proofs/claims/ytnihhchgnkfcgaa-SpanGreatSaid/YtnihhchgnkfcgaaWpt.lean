/- The rest of SpanGreat's walk, from the greatest common divisor of the steps on. -/
import Derived.Test.YtnihhchgnkfcgaaCe
import Derived.Test.YtnihhchgnkfcgaaPh
import Derived.Test.YtnihhchgnkfcgaaWo
-- USEBDN
set_option linter.unusedSimpArgs false
set_option linter.unusedVariables false
namespace Go.Proofs.Ytnihhchgnkfcgaa
open Go.ChangeShapes Go.WideShapes Go.ChangeAt Go.RowKit
/-- A part of a text: 0 the left one, 1 the right one. -/
def nav : List Nat → Code → Code
  | 0 :: p, .seq a _ => nav p a
  | _ :: p, .seq _ b => nav p b
  | 0 :: p, .cond _ a _ => nav p a
  | _ :: p, .cond _ _ b => nav p b
  | _ :: p, .loop c => nav p c
  | _ :: p, .block _ c => nav p c
  | _ :: p, .scope c => nav p c
  | _, c => c
noncomputable def greatTail : Code := nav [1, 1, 1, 1, 1, 1, 1] (Try.f4.body.getD .skip)
theorem three_eq {a b c a' b' c' : Int} (h : (a == a' && (b == b' && c == c')) = true) : a = a' ∧ b = b' ∧ c = c' := by
  simpa using h
abbrev GE (w : World) (A D : Nat) (p q : Sp) : World → Prop := Mild.Cls w.heap.size w [(⟨A, 0, none⟩, .int .i64 p.lo), (⟨A, 1, none⟩, .int .i64 p.hi), (⟨A, 2, none⟩, .int .i64 p.st), (⟨D, 0, none⟩, .int .i64 q.lo), (⟨D, 1, none⟩, .int .i64 q.hi), (⟨D, 2, none⟩, .int .i64 q.st)]
set_option maxHeartbeats 8000000 in
theorem great_tail1 (w W : World) (A D : Nat) (p q : Sp) (x0 x1 x2 x3 x4 x5 x10 x11 x12 x13 x14 x15 x16 x17 x18 x19 x20 x21 x22 x23 x24 x25 x26 x27 x28 x29 x30 x31 x32 x33 x34 x35 x36 x37 x38 x39 x40 x41 x42 x43 x44 x45 x46 x47 x48 x49 x50 x51 x52 x53 x54 x55 x56 x57 x58 x59 x60 x61 x62 x63 x64 x65 x66 x67 x68 x69 x70 x71 x72 x73 x74 x75 x76 x77 x78 x79 x80 x81 x82 x83 x84 x85 x86 x87 x88 x89 x90 x91 x92 x93 x94 x95 x96 x97 x98 x99 x100 x101 x102 x103 x104 x105 x106 x107 x108 x109 x110 x111 x112 x113 x114 x115 x116 x117 x118 x119 x120 : Value) (hC : GE w A D p q W) (hp : Vld p) (hq : Vld q) (h3 : p.st ≤ 16777216) (h4 : q.st ≤ 16777216)
    (g : Int) (hg : Hid (gcdM p.st q.st = g)) (u v : Spe) (HU : Hid (modM p g = u)) (HV : Hid (modM q g = v)) (n : Sp × Bool) (HN : Hid (meetM p q = n)) (HQ : Hid (meetM q p = n)) (cg : 1 ≤ g) (cu : (u.s.lo == v.s.lo && (u.s.hi == v.s.hi && u.s.st == v.s.st)) = true)
    : Code.wp Try.prog greatTail (bodyPost Try.prog Try.f4 fun e w' => e = .returned (.bool true) ∧ Below w.heap.size w w') ⟨List.toArray (x0 :: x1 :: x2 :: x3 :: x4 :: x5 :: .bool false :: .bool true :: .pointer (some ⟨A, 0, none⟩) :: .pointer (some ⟨D, 0, none⟩) :: x10 :: x11 :: x12 :: x13 :: x14 :: x15 :: x16 :: x17 :: x18 :: x19 :: x20 :: x21 :: x22 :: x23 :: x24 :: x25 :: x26 :: x27 :: x28 :: x29 :: x30 :: x31 :: x32 :: x33 :: x34 :: x35 :: x36 :: x37 :: x38 :: x39 :: x40 :: x41 :: x42 :: x43 :: x44 :: x45 :: x46 :: x47 :: x48 :: x49 :: x50 :: x51 :: x52 :: x53 :: x54 :: x55 :: x56 :: x57 :: x58 :: x59 :: x60 :: x61 :: x62 :: x63 :: x64 :: x65 :: x66 :: x67 :: x68 :: x69 :: x70 :: x71 :: x72 :: x73 :: x74 :: x75 :: x76 :: x77 :: x78 :: x79 :: x80 :: x81 :: x82 :: x83 :: x84 :: x85 :: x86 :: x87 :: x88 :: x89 :: x90 :: x91 :: x92 :: x93 :: x94 :: x95 :: x96 :: x97 :: x98 :: x99 :: x100 :: x101 :: x102 :: x103 :: x104 :: x105 :: x106 :: x107 :: x108 :: x109 :: x110 :: x111 :: x112 :: x113 :: x114 :: x115 :: x116 :: x117 :: x118 :: x119 :: x120 :: []), []⟩ W := by
  conv => arg 2; whnf
  have HE := Lib.hid hC; clear hC
  have hWc := HE.out.cells; simp only [List.forall_mem_cons, List.not_mem_nil, false_imp_iff, implies_true, and_true] at hWc; obtain ⟨g0, g1, g2, g3, g4, g5⟩ := hWc
  have p0 := hp.st0; have q0 := hq.st0
  go_wp2_with (go_at_call 21; (with_reducible refine (rgcd_any p.st q.st _ (by omega) (by omega) (by omega) (by omega)).mono ?_); rw [hg.out]; rintro e w6 ⟨rfl, hb⟩; replace HE := Lib.hid (Mild.Cls.closed _ _ HE.out hb); clear g0 g1 g2 g3 g4 g5)
  have fu0 : ∀ W, (Instr.field 43 (spe u) 0).run Try.prog W = .ok (spv u.s) W := fun W => fld0 _ _ _ _ W
  have fv0 : ∀ W, (Instr.field 43 (spe v) 0).run Try.prog W = .ok (spv v.s) W := fun W => fld0 _ _ _ _ W
  obtain ⟨cu1, cu2, cu3⟩ := three_eq cu
  refine Mild.region_mild 18 [] (GE w A D p q) (by kernel_rfl) 121 (by kernel_rfl) rfl (by simp) Mild.Cls.closed HE.out (by simp) ?H12
  apply Exists.intro
  refine ⟨?HW12, ?HT12⟩
  case HW12 =>
    intro W hW
    have hWc := hW.cells; simp only [List.forall_mem_cons, List.not_mem_nil, false_imp_iff, implies_true, and_true] at hWc; obtain ⟨g0, g1, g2, g3, g4, g5⟩ := hWc
    clear hW
    simp only [List.take_succ_cons, List.take_zero]
    repeat (apply Mild.walkM_q rfl; (go_wp2_with (first | (go_at_call 22; (with_reducible refine (lmod_any p g _ hp.bd).mono ?_); rw [HU.out]; rintro e w1 ⟨rfl, hb⟩) | (go_at_call 22; (with_reducible refine (lmod_any q g _ hq.bd).mono ?_); rw [HV.out]; rintro e w1 ⟨rfl, hb⟩))); (first | refine ⟨rfl, rfl, Below.refl _ _, ?_⟩ | refine ⟨rfl, rfl, hb, ?_⟩))
    exact Mild.walkM_end rfl
  case HT12 =>
    intro F w12 hC u1 u2
    clear u1 u2
    simp only [List.drop_succ_cons, List.drop_zero, Mild.putAll, List.foldl_cons, List.foldl_nil, Mild.ptrTo, Act.put, List.setIfInBounds_toArray, List.set_cons_zero, List.set_cons_succ]
    clear F HE
    have HE := Lib.hid hC; clear hC
    go_wp2_with fail
    refine Mild.region_mild 19 [] (GE w A D p q) (by kernel_rfl) 121 (by kernel_rfl) rfl (by simp) Mild.Cls.closed HE.out (by simp) ?H14
    apply Exists.intro
    refine ⟨?HW14, ?HT14⟩
    case HW14 =>
      intro W hW
      have hWc := hW.cells; simp only [List.forall_mem_cons, List.not_mem_nil, false_imp_iff, implies_true, and_true] at hWc; obtain ⟨g0, g1, g2, g3, g4, g5⟩ := hWc
      clear hW
      simp only [List.take_succ_cons, List.take_zero]
      repeat (apply Mild.walkM_q rfl; (go_wp2_with (first | (go_at_call 14; (with_reducible refine (apart_any p q _ hp hq (by omega) (by omega)).mono ?_); rw [HN.out]; rintro e w1 ⟨rfl, hb⟩) | (go_at_call 14; (with_reducible refine (apart_any q p _ hq hp (by omega) (by omega)).mono ?_); rw [HQ.out]; rintro e w1 ⟨rfl, hb⟩) | (go_at_call 12; (with_reducible refine (lmeet_any p q _ hp hq (by omega) (by omega)).mono ?_); rw [HN.out]; rintro e w1 ⟨rfl, hb⟩) | (go_at_call 12; (with_reducible refine (lmeet_any q p _ hq hp (by omega) (by omega)).mono ?_); rw [HQ.out]; rintro e w1 ⟨rfl, hb⟩))); (first | refine ⟨rfl, rfl, Below.refl _ _, ?_⟩ | refine ⟨rfl, rfl, hb, ?_⟩))
      exact Mild.walkM_end rfl
    case HT14 =>
      intro F w14 hC u1 u2
      clear u1 u2
      simp only [List.drop_succ_cons, List.drop_zero, Mild.putAll, List.foldl_cons, List.foldl_nil, Mild.ptrTo, Act.put, List.setIfInBounds_toArray, List.set_cons_zero, List.set_cons_succ]
      clear F HE
      have hB14 := hC.below
      clear hC
      go_wp2_with fail
      go_ret
      exact ⟨rfl, hB14⟩
set_option maxHeartbeats 8000000 in
theorem great_tail2a (w W : World) (A D : Nat) (p q : Sp) (x0 x1 x2 x3 x4 x5 x10 x11 x12 x13 x14 x15 x16 x17 x18 x19 x20 x21 x22 x23 x24 x25 x26 x27 x28 x29 x30 x31 x32 x33 x34 x35 x36 x37 x38 x39 x40 x41 x42 x43 x44 x45 x46 x47 x48 x49 x50 x51 x52 x53 x54 x55 x56 x57 x58 x59 x60 x61 x62 x63 x64 x65 x66 x67 x68 x69 x70 x71 x72 x73 x74 x75 x76 x77 x78 x79 x80 x81 x82 x83 x84 x85 x86 x87 x88 x89 x90 x91 x92 x93 x94 x95 x96 x97 x98 x99 x100 x101 x102 x103 x104 x105 x106 x107 x108 x109 x110 x111 x112 x113 x114 x115 x116 x117 x118 x119 x120 : Value) (hC : GE w A D p q W) (hp : Vld p) (hq : Vld q) (h3 : p.st ≤ 16777216) (h4 : q.st ≤ 16777216)
    (g : Int) (hg : Hid (gcdM p.st q.st = g)) (u v : Spe) (HU : Hid (modM p g = u)) (HV : Hid (modM q g = v)) (n : Sp × Bool) (HN : Hid (meetM p q = n)) (HQ : Hid (meetM q p = n)) (cg : 1 ≤ g) (cu4 : ¬ u.s.lo = v.s.lo) (cn : n.2 = false)
    : Code.wp Try.prog greatTail (bodyPost Try.prog Try.f4 fun e w' => e = .returned (.bool true) ∧ Below w.heap.size w w') ⟨List.toArray (x0 :: x1 :: x2 :: x3 :: x4 :: x5 :: .bool false :: .bool true :: .pointer (some ⟨A, 0, none⟩) :: .pointer (some ⟨D, 0, none⟩) :: x10 :: x11 :: x12 :: x13 :: x14 :: x15 :: x16 :: x17 :: x18 :: x19 :: x20 :: x21 :: x22 :: x23 :: x24 :: x25 :: x26 :: x27 :: x28 :: x29 :: x30 :: x31 :: x32 :: x33 :: x34 :: x35 :: x36 :: x37 :: x38 :: x39 :: x40 :: x41 :: x42 :: x43 :: x44 :: x45 :: x46 :: x47 :: x48 :: x49 :: x50 :: x51 :: x52 :: x53 :: x54 :: x55 :: x56 :: x57 :: x58 :: x59 :: x60 :: x61 :: x62 :: x63 :: x64 :: x65 :: x66 :: x67 :: x68 :: x69 :: x70 :: x71 :: x72 :: x73 :: x74 :: x75 :: x76 :: x77 :: x78 :: x79 :: x80 :: x81 :: x82 :: x83 :: x84 :: x85 :: x86 :: x87 :: x88 :: x89 :: x90 :: x91 :: x92 :: x93 :: x94 :: x95 :: x96 :: x97 :: x98 :: x99 :: x100 :: x101 :: x102 :: x103 :: x104 :: x105 :: x106 :: x107 :: x108 :: x109 :: x110 :: x111 :: x112 :: x113 :: x114 :: x115 :: x116 :: x117 :: x118 :: x119 :: x120 :: []), []⟩ W := by
  conv => arg 2; whnf
  have HE := Lib.hid hC; clear hC
  have hWc := HE.out.cells; simp only [List.forall_mem_cons, List.not_mem_nil, false_imp_iff, implies_true, and_true] at hWc; obtain ⟨g0, g1, g2, g3, g4, g5⟩ := hWc
  have p0 := hp.st0; have q0 := hq.st0
  go_wp2_with (go_at_call 21; (with_reducible refine (rgcd_any p.st q.st _ (by omega) (by omega) (by omega) (by omega)).mono ?_); rw [hg.out]; rintro e w6 ⟨rfl, hb⟩; replace HE := Lib.hid (Mild.Cls.closed _ _ HE.out hb); clear g0 g1 g2 g3 g4 g5)
  have fu0 : ∀ W, (Instr.field 43 (spe u) 0).run Try.prog W = .ok (spv u.s) W := fun W => fld0 _ _ _ _ W
  have fv0 : ∀ W, (Instr.field 43 (spe v) 0).run Try.prog W = .ok (spv v.s) W := fun W => fld0 _ _ _ _ W
  refine Mild.region_mild 18 [] (GE w A D p q) (by kernel_rfl) 121 (by kernel_rfl) rfl (by simp) Mild.Cls.closed HE.out (by simp) ?H12
  apply Exists.intro
  refine ⟨?HW12, ?HT12⟩
  case HW12 =>
    intro W hW
    have hWc := hW.cells; simp only [List.forall_mem_cons, List.not_mem_nil, false_imp_iff, implies_true, and_true] at hWc; obtain ⟨g0, g1, g2, g3, g4, g5⟩ := hWc
    clear hW
    simp only [List.take_succ_cons, List.take_zero]
    repeat (apply Mild.walkM_q rfl; (go_wp2_with (first | (go_at_call 22; (with_reducible refine (lmod_any p g _ hp.bd).mono ?_); rw [HU.out]; rintro e w1 ⟨rfl, hb⟩) | (go_at_call 22; (with_reducible refine (lmod_any q g _ hq.bd).mono ?_); rw [HV.out]; rintro e w1 ⟨rfl, hb⟩) | (go_at_call 14; (with_reducible refine (apart_any p q _ hp hq (by omega) (by omega)).mono ?_); rw [HN.out, cn]; rintro e w1 ⟨rfl, hb⟩))); (first | refine ⟨rfl, rfl, Below.refl _ _, ?_⟩ | refine ⟨rfl, rfl, hb, ?_⟩))
    exact Mild.walkM_end rfl
  case HT12 =>
    intro F w12 hC u1 u2
    clear u1 u2
    simp only [List.drop_succ_cons, List.drop_zero, Mild.putAll, List.foldl_cons, List.foldl_nil, Mild.ptrTo, Act.put, List.setIfInBounds_toArray, List.set_cons_zero, List.set_cons_succ]
    clear F HE
    have HE := Lib.hid hC; clear hC
    go_wp2_with fail
    refine Mild.region_mild 19 [] (GE w A D p q) (by kernel_rfl) 121 (by kernel_rfl) rfl (by simp) Mild.Cls.closed HE.out (by simp) ?H14
    apply Exists.intro
    refine ⟨?HW14, ?HT14⟩
    case HW14 =>
      intro W hW
      have hWc := hW.cells; simp only [List.forall_mem_cons, List.not_mem_nil, false_imp_iff, implies_true, and_true] at hWc; obtain ⟨g0, g1, g2, g3, g4, g5⟩ := hWc
      clear hW
      simp only [List.take_succ_cons, List.take_zero]
      repeat (apply Mild.walkM_q rfl; (go_wp2_with (first | (go_at_call 14; (with_reducible refine (apart_any p q _ hp hq (by omega) (by omega)).mono ?_); rw [HN.out]; rintro e w1 ⟨rfl, hb⟩) | (go_at_call 14; (with_reducible refine (apart_any q p _ hq hp (by omega) (by omega)).mono ?_); rw [HQ.out]; rintro e w1 ⟨rfl, hb⟩) | (go_at_call 12; (with_reducible refine (lmeet_any p q _ hp hq (by omega) (by omega)).mono ?_); rw [HN.out]; rintro e w1 ⟨rfl, hb⟩) | (go_at_call 12; (with_reducible refine (lmeet_any q p _ hq hp (by omega) (by omega)).mono ?_); rw [HQ.out]; rintro e w1 ⟨rfl, hb⟩))); (first | refine ⟨rfl, rfl, Below.refl _ _, ?_⟩ | refine ⟨rfl, rfl, hb, ?_⟩))
      exact Mild.walkM_end rfl
    case HT14 =>
      intro F w14 hC u1 u2
      clear u1 u2
      simp only [List.drop_succ_cons, List.drop_zero, Mild.putAll, List.foldl_cons, List.foldl_nil, Mild.ptrTo, Act.put, List.setIfInBounds_toArray, List.set_cons_zero, List.set_cons_succ]
      clear F HE
      have hB14 := hC.below
      clear hC
      go_wp2_with fail
      go_ret
      exact ⟨rfl, hB14⟩
set_option maxHeartbeats 8000000 in
theorem great_tail2b (w W : World) (A D : Nat) (p q : Sp) (x0 x1 x2 x3 x4 x5 x10 x11 x12 x13 x14 x15 x16 x17 x18 x19 x20 x21 x22 x23 x24 x25 x26 x27 x28 x29 x30 x31 x32 x33 x34 x35 x36 x37 x38 x39 x40 x41 x42 x43 x44 x45 x46 x47 x48 x49 x50 x51 x52 x53 x54 x55 x56 x57 x58 x59 x60 x61 x62 x63 x64 x65 x66 x67 x68 x69 x70 x71 x72 x73 x74 x75 x76 x77 x78 x79 x80 x81 x82 x83 x84 x85 x86 x87 x88 x89 x90 x91 x92 x93 x94 x95 x96 x97 x98 x99 x100 x101 x102 x103 x104 x105 x106 x107 x108 x109 x110 x111 x112 x113 x114 x115 x116 x117 x118 x119 x120 : Value) (hC : GE w A D p q W) (hp : Vld p) (hq : Vld q) (h3 : p.st ≤ 16777216) (h4 : q.st ≤ 16777216)
    (g : Int) (hg : Hid (gcdM p.st q.st = g)) (u v : Spe) (HU : Hid (modM p g = u)) (HV : Hid (modM q g = v)) (n : Sp × Bool) (HN : Hid (meetM p q = n)) (HQ : Hid (meetM q p = n)) (cg : 1 ≤ g) (cu1 : u.s.lo = v.s.lo) (cu4 : ¬ u.s.hi = v.s.hi) (cn : n.2 = false)
    : Code.wp Try.prog greatTail (bodyPost Try.prog Try.f4 fun e w' => e = .returned (.bool true) ∧ Below w.heap.size w w') ⟨List.toArray (x0 :: x1 :: x2 :: x3 :: x4 :: x5 :: .bool false :: .bool true :: .pointer (some ⟨A, 0, none⟩) :: .pointer (some ⟨D, 0, none⟩) :: x10 :: x11 :: x12 :: x13 :: x14 :: x15 :: x16 :: x17 :: x18 :: x19 :: x20 :: x21 :: x22 :: x23 :: x24 :: x25 :: x26 :: x27 :: x28 :: x29 :: x30 :: x31 :: x32 :: x33 :: x34 :: x35 :: x36 :: x37 :: x38 :: x39 :: x40 :: x41 :: x42 :: x43 :: x44 :: x45 :: x46 :: x47 :: x48 :: x49 :: x50 :: x51 :: x52 :: x53 :: x54 :: x55 :: x56 :: x57 :: x58 :: x59 :: x60 :: x61 :: x62 :: x63 :: x64 :: x65 :: x66 :: x67 :: x68 :: x69 :: x70 :: x71 :: x72 :: x73 :: x74 :: x75 :: x76 :: x77 :: x78 :: x79 :: x80 :: x81 :: x82 :: x83 :: x84 :: x85 :: x86 :: x87 :: x88 :: x89 :: x90 :: x91 :: x92 :: x93 :: x94 :: x95 :: x96 :: x97 :: x98 :: x99 :: x100 :: x101 :: x102 :: x103 :: x104 :: x105 :: x106 :: x107 :: x108 :: x109 :: x110 :: x111 :: x112 :: x113 :: x114 :: x115 :: x116 :: x117 :: x118 :: x119 :: x120 :: []), []⟩ W := by
  conv => arg 2; whnf
  have HE := Lib.hid hC; clear hC
  have hWc := HE.out.cells; simp only [List.forall_mem_cons, List.not_mem_nil, false_imp_iff, implies_true, and_true] at hWc; obtain ⟨g0, g1, g2, g3, g4, g5⟩ := hWc
  have p0 := hp.st0; have q0 := hq.st0
  go_wp2_with (go_at_call 21; (with_reducible refine (rgcd_any p.st q.st _ (by omega) (by omega) (by omega) (by omega)).mono ?_); rw [hg.out]; rintro e w6 ⟨rfl, hb⟩; replace HE := Lib.hid (Mild.Cls.closed _ _ HE.out hb); clear g0 g1 g2 g3 g4 g5)
  have fu0 : ∀ W, (Instr.field 43 (spe u) 0).run Try.prog W = .ok (spv u.s) W := fun W => fld0 _ _ _ _ W
  have fv0 : ∀ W, (Instr.field 43 (spe v) 0).run Try.prog W = .ok (spv v.s) W := fun W => fld0 _ _ _ _ W
  refine Mild.region_mild 18 [] (GE w A D p q) (by kernel_rfl) 121 (by kernel_rfl) rfl (by simp) Mild.Cls.closed HE.out (by simp) ?H12
  apply Exists.intro
  refine ⟨?HW12, ?HT12⟩
  case HW12 =>
    intro W hW
    have hWc := hW.cells; simp only [List.forall_mem_cons, List.not_mem_nil, false_imp_iff, implies_true, and_true] at hWc; obtain ⟨g0, g1, g2, g3, g4, g5⟩ := hWc
    clear hW
    simp only [List.take_succ_cons, List.take_zero]
    repeat (apply Mild.walkM_q rfl; (go_wp2_with (first | (go_at_call 22; (with_reducible refine (lmod_any p g _ hp.bd).mono ?_); rw [HU.out]; rintro e w1 ⟨rfl, hb⟩) | (go_at_call 22; (with_reducible refine (lmod_any q g _ hq.bd).mono ?_); rw [HV.out]; rintro e w1 ⟨rfl, hb⟩) | (go_at_call 14; (with_reducible refine (apart_any p q _ hp hq (by omega) (by omega)).mono ?_); rw [HN.out, cn]; rintro e w1 ⟨rfl, hb⟩))); (first | refine ⟨rfl, rfl, Below.refl _ _, ?_⟩ | refine ⟨rfl, rfl, hb, ?_⟩))
    exact Mild.walkM_end rfl
  case HT12 =>
    intro F w12 hC u1 u2
    clear u1 u2
    simp only [List.drop_succ_cons, List.drop_zero, Mild.putAll, List.foldl_cons, List.foldl_nil, Mild.ptrTo, Act.put, List.setIfInBounds_toArray, List.set_cons_zero, List.set_cons_succ]
    clear F HE
    have HE := Lib.hid hC; clear hC
    go_wp2_with fail
    refine Mild.region_mild 19 [] (GE w A D p q) (by kernel_rfl) 121 (by kernel_rfl) rfl (by simp) Mild.Cls.closed HE.out (by simp) ?H14
    apply Exists.intro
    refine ⟨?HW14, ?HT14⟩
    case HW14 =>
      intro W hW
      have hWc := hW.cells; simp only [List.forall_mem_cons, List.not_mem_nil, false_imp_iff, implies_true, and_true] at hWc; obtain ⟨g0, g1, g2, g3, g4, g5⟩ := hWc
      clear hW
      simp only [List.take_succ_cons, List.take_zero]
      repeat (apply Mild.walkM_q rfl; (go_wp2_with (first | (go_at_call 14; (with_reducible refine (apart_any p q _ hp hq (by omega) (by omega)).mono ?_); rw [HN.out]; rintro e w1 ⟨rfl, hb⟩) | (go_at_call 14; (with_reducible refine (apart_any q p _ hq hp (by omega) (by omega)).mono ?_); rw [HQ.out]; rintro e w1 ⟨rfl, hb⟩) | (go_at_call 12; (with_reducible refine (lmeet_any p q _ hp hq (by omega) (by omega)).mono ?_); rw [HN.out]; rintro e w1 ⟨rfl, hb⟩) | (go_at_call 12; (with_reducible refine (lmeet_any q p _ hq hp (by omega) (by omega)).mono ?_); rw [HQ.out]; rintro e w1 ⟨rfl, hb⟩))); (first | refine ⟨rfl, rfl, Below.refl _ _, ?_⟩ | refine ⟨rfl, rfl, hb, ?_⟩))
      exact Mild.walkM_end rfl
    case HT14 =>
      intro F w14 hC u1 u2
      clear u1 u2
      simp only [List.drop_succ_cons, List.drop_zero, Mild.putAll, List.foldl_cons, List.foldl_nil, Mild.ptrTo, Act.put, List.setIfInBounds_toArray, List.set_cons_zero, List.set_cons_succ]
      clear F HE
      have hB14 := hC.below
      clear hC
      go_wp2_with fail
      go_ret
      exact ⟨rfl, hB14⟩
set_option maxHeartbeats 8000000 in
theorem great_tail2c (w W : World) (A D : Nat) (p q : Sp) (x0 x1 x2 x3 x4 x5 x10 x11 x12 x13 x14 x15 x16 x17 x18 x19 x20 x21 x22 x23 x24 x25 x26 x27 x28 x29 x30 x31 x32 x33 x34 x35 x36 x37 x38 x39 x40 x41 x42 x43 x44 x45 x46 x47 x48 x49 x50 x51 x52 x53 x54 x55 x56 x57 x58 x59 x60 x61 x62 x63 x64 x65 x66 x67 x68 x69 x70 x71 x72 x73 x74 x75 x76 x77 x78 x79 x80 x81 x82 x83 x84 x85 x86 x87 x88 x89 x90 x91 x92 x93 x94 x95 x96 x97 x98 x99 x100 x101 x102 x103 x104 x105 x106 x107 x108 x109 x110 x111 x112 x113 x114 x115 x116 x117 x118 x119 x120 : Value) (hC : GE w A D p q W) (hp : Vld p) (hq : Vld q) (h3 : p.st ≤ 16777216) (h4 : q.st ≤ 16777216)
    (g : Int) (hg : Hid (gcdM p.st q.st = g)) (u v : Spe) (HU : Hid (modM p g = u)) (HV : Hid (modM q g = v)) (n : Sp × Bool) (HN : Hid (meetM p q = n)) (HQ : Hid (meetM q p = n)) (cg : 1 ≤ g) (cu1 : u.s.lo = v.s.lo) (cu2 : u.s.hi = v.s.hi) (cu4 : ¬ u.s.st = v.s.st) (cn : n.2 = false)
    : Code.wp Try.prog greatTail (bodyPost Try.prog Try.f4 fun e w' => e = .returned (.bool true) ∧ Below w.heap.size w w') ⟨List.toArray (x0 :: x1 :: x2 :: x3 :: x4 :: x5 :: .bool false :: .bool true :: .pointer (some ⟨A, 0, none⟩) :: .pointer (some ⟨D, 0, none⟩) :: x10 :: x11 :: x12 :: x13 :: x14 :: x15 :: x16 :: x17 :: x18 :: x19 :: x20 :: x21 :: x22 :: x23 :: x24 :: x25 :: x26 :: x27 :: x28 :: x29 :: x30 :: x31 :: x32 :: x33 :: x34 :: x35 :: x36 :: x37 :: x38 :: x39 :: x40 :: x41 :: x42 :: x43 :: x44 :: x45 :: x46 :: x47 :: x48 :: x49 :: x50 :: x51 :: x52 :: x53 :: x54 :: x55 :: x56 :: x57 :: x58 :: x59 :: x60 :: x61 :: x62 :: x63 :: x64 :: x65 :: x66 :: x67 :: x68 :: x69 :: x70 :: x71 :: x72 :: x73 :: x74 :: x75 :: x76 :: x77 :: x78 :: x79 :: x80 :: x81 :: x82 :: x83 :: x84 :: x85 :: x86 :: x87 :: x88 :: x89 :: x90 :: x91 :: x92 :: x93 :: x94 :: x95 :: x96 :: x97 :: x98 :: x99 :: x100 :: x101 :: x102 :: x103 :: x104 :: x105 :: x106 :: x107 :: x108 :: x109 :: x110 :: x111 :: x112 :: x113 :: x114 :: x115 :: x116 :: x117 :: x118 :: x119 :: x120 :: []), []⟩ W := by
  conv => arg 2; whnf
  have HE := Lib.hid hC; clear hC
  have hWc := HE.out.cells; simp only [List.forall_mem_cons, List.not_mem_nil, false_imp_iff, implies_true, and_true] at hWc; obtain ⟨g0, g1, g2, g3, g4, g5⟩ := hWc
  have p0 := hp.st0; have q0 := hq.st0
  go_wp2_with (go_at_call 21; (with_reducible refine (rgcd_any p.st q.st _ (by omega) (by omega) (by omega) (by omega)).mono ?_); rw [hg.out]; rintro e w6 ⟨rfl, hb⟩; replace HE := Lib.hid (Mild.Cls.closed _ _ HE.out hb); clear g0 g1 g2 g3 g4 g5)
  have fu0 : ∀ W, (Instr.field 43 (spe u) 0).run Try.prog W = .ok (spv u.s) W := fun W => fld0 _ _ _ _ W
  have fv0 : ∀ W, (Instr.field 43 (spe v) 0).run Try.prog W = .ok (spv v.s) W := fun W => fld0 _ _ _ _ W
  refine Mild.region_mild 18 [] (GE w A D p q) (by kernel_rfl) 121 (by kernel_rfl) rfl (by simp) Mild.Cls.closed HE.out (by simp) ?H12
  apply Exists.intro
  refine ⟨?HW12, ?HT12⟩
  case HW12 =>
    intro W hW
    have hWc := hW.cells; simp only [List.forall_mem_cons, List.not_mem_nil, false_imp_iff, implies_true, and_true] at hWc; obtain ⟨g0, g1, g2, g3, g4, g5⟩ := hWc
    clear hW
    simp only [List.take_succ_cons, List.take_zero]
    repeat (apply Mild.walkM_q rfl; (go_wp2_with (first | (go_at_call 22; (with_reducible refine (lmod_any p g _ hp.bd).mono ?_); rw [HU.out]; rintro e w1 ⟨rfl, hb⟩) | (go_at_call 22; (with_reducible refine (lmod_any q g _ hq.bd).mono ?_); rw [HV.out]; rintro e w1 ⟨rfl, hb⟩) | (go_at_call 14; (with_reducible refine (apart_any p q _ hp hq (by omega) (by omega)).mono ?_); rw [HN.out, cn]; rintro e w1 ⟨rfl, hb⟩))); (first | refine ⟨rfl, rfl, Below.refl _ _, ?_⟩ | refine ⟨rfl, rfl, hb, ?_⟩))
    exact Mild.walkM_end rfl
  case HT12 =>
    intro F w12 hC u1 u2
    clear u1 u2
    simp only [List.drop_succ_cons, List.drop_zero, Mild.putAll, List.foldl_cons, List.foldl_nil, Mild.ptrTo, Act.put, List.setIfInBounds_toArray, List.set_cons_zero, List.set_cons_succ]
    clear F HE
    have HE := Lib.hid hC; clear hC
    go_wp2_with fail
    refine Mild.region_mild 19 [] (GE w A D p q) (by kernel_rfl) 121 (by kernel_rfl) rfl (by simp) Mild.Cls.closed HE.out (by simp) ?H14
    apply Exists.intro
    refine ⟨?HW14, ?HT14⟩
    case HW14 =>
      intro W hW
      have hWc := hW.cells; simp only [List.forall_mem_cons, List.not_mem_nil, false_imp_iff, implies_true, and_true] at hWc; obtain ⟨g0, g1, g2, g3, g4, g5⟩ := hWc
      clear hW
      simp only [List.take_succ_cons, List.take_zero]
      repeat (apply Mild.walkM_q rfl; (go_wp2_with (first | (go_at_call 14; (with_reducible refine (apart_any p q _ hp hq (by omega) (by omega)).mono ?_); rw [HN.out]; rintro e w1 ⟨rfl, hb⟩) | (go_at_call 14; (with_reducible refine (apart_any q p _ hq hp (by omega) (by omega)).mono ?_); rw [HQ.out]; rintro e w1 ⟨rfl, hb⟩) | (go_at_call 12; (with_reducible refine (lmeet_any p q _ hp hq (by omega) (by omega)).mono ?_); rw [HN.out]; rintro e w1 ⟨rfl, hb⟩) | (go_at_call 12; (with_reducible refine (lmeet_any q p _ hq hp (by omega) (by omega)).mono ?_); rw [HQ.out]; rintro e w1 ⟨rfl, hb⟩))); (first | refine ⟨rfl, rfl, Below.refl _ _, ?_⟩ | refine ⟨rfl, rfl, hb, ?_⟩))
      exact Mild.walkM_end rfl
    case HT14 =>
      intro F w14 hC u1 u2
      clear u1 u2
      simp only [List.drop_succ_cons, List.drop_zero, Mild.putAll, List.foldl_cons, List.foldl_nil, Mild.ptrTo, Act.put, List.setIfInBounds_toArray, List.set_cons_zero, List.set_cons_succ]
      clear F HE
      have hB14 := hC.below
      clear hC
      go_wp2_with fail
      go_ret
      exact ⟨rfl, hB14⟩
set_option maxHeartbeats 8000000 in
theorem great_tail3 (w W : World) (A D : Nat) (p q : Sp) (x0 x1 x2 x3 x4 x5 x10 x11 x12 x13 x14 x15 x16 x17 x18 x19 x20 x21 x22 x23 x24 x25 x26 x27 x28 x29 x30 x31 x32 x33 x34 x35 x36 x37 x38 x39 x40 x41 x42 x43 x44 x45 x46 x47 x48 x49 x50 x51 x52 x53 x54 x55 x56 x57 x58 x59 x60 x61 x62 x63 x64 x65 x66 x67 x68 x69 x70 x71 x72 x73 x74 x75 x76 x77 x78 x79 x80 x81 x82 x83 x84 x85 x86 x87 x88 x89 x90 x91 x92 x93 x94 x95 x96 x97 x98 x99 x100 x101 x102 x103 x104 x105 x106 x107 x108 x109 x110 x111 x112 x113 x114 x115 x116 x117 x118 x119 x120 : Value) (hC : GE w A D p q W) (hp : Vld p) (hq : Vld q) (h3 : p.st ≤ 16777216) (h4 : q.st ≤ 16777216)
    (g : Int) (hg : Hid (gcdM p.st q.st = g)) (u v : Spe) (HU : Hid (modM p g = u)) (HV : Hid (modM q g = v)) (n : Sp × Bool) (HN : Hid (meetM p q = n)) (HQ : Hid (meetM q p = n)) (cg : ¬ 1 ≤ g)
    : Code.wp Try.prog greatTail (bodyPost Try.prog Try.f4 fun e w' => e = .returned (.bool true) ∧ Below w.heap.size w w') ⟨List.toArray (x0 :: x1 :: x2 :: x3 :: x4 :: x5 :: .bool false :: .bool true :: .pointer (some ⟨A, 0, none⟩) :: .pointer (some ⟨D, 0, none⟩) :: x10 :: x11 :: x12 :: x13 :: x14 :: x15 :: x16 :: x17 :: x18 :: x19 :: x20 :: x21 :: x22 :: x23 :: x24 :: x25 :: x26 :: x27 :: x28 :: x29 :: x30 :: x31 :: x32 :: x33 :: x34 :: x35 :: x36 :: x37 :: x38 :: x39 :: x40 :: x41 :: x42 :: x43 :: x44 :: x45 :: x46 :: x47 :: x48 :: x49 :: x50 :: x51 :: x52 :: x53 :: x54 :: x55 :: x56 :: x57 :: x58 :: x59 :: x60 :: x61 :: x62 :: x63 :: x64 :: x65 :: x66 :: x67 :: x68 :: x69 :: x70 :: x71 :: x72 :: x73 :: x74 :: x75 :: x76 :: x77 :: x78 :: x79 :: x80 :: x81 :: x82 :: x83 :: x84 :: x85 :: x86 :: x87 :: x88 :: x89 :: x90 :: x91 :: x92 :: x93 :: x94 :: x95 :: x96 :: x97 :: x98 :: x99 :: x100 :: x101 :: x102 :: x103 :: x104 :: x105 :: x106 :: x107 :: x108 :: x109 :: x110 :: x111 :: x112 :: x113 :: x114 :: x115 :: x116 :: x117 :: x118 :: x119 :: x120 :: []), []⟩ W := by
  conv => arg 2; whnf
  have HE := Lib.hid hC; clear hC
  have hWc := HE.out.cells; simp only [List.forall_mem_cons, List.not_mem_nil, false_imp_iff, implies_true, and_true] at hWc; obtain ⟨g0, g1, g2, g3, g4, g5⟩ := hWc
  have p0 := hp.st0; have q0 := hq.st0
  go_wp2_with (go_at_call 21; (with_reducible refine (rgcd_any p.st q.st _ (by omega) (by omega) (by omega) (by omega)).mono ?_); rw [hg.out]; rintro e w6 ⟨rfl, hb⟩; replace HE := Lib.hid (Mild.Cls.closed _ _ HE.out hb); clear g0 g1 g2 g3 g4 g5)
  have fu0 : ∀ W, (Instr.field 43 (spe u) 0).run Try.prog W = .ok (spv u.s) W := fun W => fld0 _ _ _ _ W
  have fv0 : ∀ W, (Instr.field 43 (spe v) 0).run Try.prog W = .ok (spv v.s) W := fun W => fld0 _ _ _ _ W
  refine Mild.region_mild 18 [] (GE w A D p q) (by kernel_rfl) 121 (by kernel_rfl) rfl (by simp) Mild.Cls.closed HE.out (by simp) ?H12
  apply Exists.intro
  refine ⟨?HW12, ?HT12⟩
  case HW12 =>
    intro W hW
    have hWc := hW.cells; simp only [List.forall_mem_cons, List.not_mem_nil, false_imp_iff, implies_true, and_true] at hWc; obtain ⟨g0, g1, g2, g3, g4, g5⟩ := hWc
    clear hW
    simp only [List.take_succ_cons, List.take_zero]
    repeat (apply Mild.walkM_q rfl; (go_wp2_with fail); (first | refine ⟨rfl, rfl, Below.refl _ _, ?_⟩ | refine ⟨rfl, rfl, hb, ?_⟩))
    exact Mild.walkM_end rfl
  case HT12 =>
    intro F w12 hC u1 u2
    clear u1 u2
    simp only [List.drop_succ_cons, List.drop_zero, Mild.putAll, List.foldl_cons, List.foldl_nil, Mild.ptrTo, Act.put, List.setIfInBounds_toArray, List.set_cons_zero, List.set_cons_succ]
    clear F HE
    have HE := Lib.hid hC; clear hC
    go_wp2_with fail
    refine Mild.region_mild 19 [] (GE w A D p q) (by kernel_rfl) 121 (by kernel_rfl) rfl (by simp) Mild.Cls.closed HE.out (by simp) ?H14
    apply Exists.intro
    refine ⟨?HW14, ?HT14⟩
    case HW14 =>
      intro W hW
      have hWc := hW.cells; simp only [List.forall_mem_cons, List.not_mem_nil, false_imp_iff, implies_true, and_true] at hWc; obtain ⟨g0, g1, g2, g3, g4, g5⟩ := hWc
      clear hW
      simp only [List.take_succ_cons, List.take_zero]
      repeat (apply Mild.walkM_q rfl; (go_wp2_with (first | (go_at_call 14; (with_reducible refine (apart_any p q _ hp hq (by omega) (by omega)).mono ?_); rw [HN.out]; rintro e w1 ⟨rfl, hb⟩) | (go_at_call 14; (with_reducible refine (apart_any q p _ hq hp (by omega) (by omega)).mono ?_); rw [HQ.out]; rintro e w1 ⟨rfl, hb⟩) | (go_at_call 12; (with_reducible refine (lmeet_any p q _ hp hq (by omega) (by omega)).mono ?_); rw [HN.out]; rintro e w1 ⟨rfl, hb⟩) | (go_at_call 12; (with_reducible refine (lmeet_any q p _ hq hp (by omega) (by omega)).mono ?_); rw [HQ.out]; rintro e w1 ⟨rfl, hb⟩))); (first | refine ⟨rfl, rfl, Below.refl _ _, ?_⟩ | refine ⟨rfl, rfl, hb, ?_⟩))
      exact Mild.walkM_end rfl
    case HT14 =>
      intro F w14 hC u1 u2
      clear u1 u2
      simp only [List.drop_succ_cons, List.drop_zero, Mild.putAll, List.foldl_cons, List.foldl_nil, Mild.ptrTo, Act.put, List.setIfInBounds_toArray, List.set_cons_zero, List.set_cons_succ]
      clear F HE
      have hB14 := hC.below
      clear hC
      go_wp2_with fail
      go_ret
      exact ⟨rfl, hB14⟩
/-- The three cases joined. -/
theorem great_tail_any (w W : World) (A D : Nat) (p q : Sp) (x0 x1 x2 x3 x4 x5 x10 x11 x12 x13 x14 x15 x16 x17 x18 x19 x20 x21 x22 x23 x24 x25 x26 x27 x28 x29 x30 x31 x32 x33 x34 x35 x36 x37 x38 x39 x40 x41 x42 x43 x44 x45 x46 x47 x48 x49 x50 x51 x52 x53 x54 x55 x56 x57 x58 x59 x60 x61 x62 x63 x64 x65 x66 x67 x68 x69 x70 x71 x72 x73 x74 x75 x76 x77 x78 x79 x80 x81 x82 x83 x84 x85 x86 x87 x88 x89 x90 x91 x92 x93 x94 x95 x96 x97 x98 x99 x100 x101 x102 x103 x104 x105 x106 x107 x108 x109 x110 x111 x112 x113 x114 x115 x116 x117 x118 x119 x120 : Value) (hC : GE w A D p q W) (hp : Vld p) (hq : Vld q) (h3 : p.st ≤ 16777216) (h4 : q.st ≤ 16777216) :
    Code.wp Try.prog greatTail (bodyPost Try.prog Try.f4 fun e w' => e = .returned (.bool true) ∧ Below w.heap.size w w') ⟨List.toArray (x0 :: x1 :: x2 :: x3 :: x4 :: x5 :: .bool false :: .bool true :: .pointer (some ⟨A, 0, none⟩) :: .pointer (some ⟨D, 0, none⟩) :: x10 :: x11 :: x12 :: x13 :: x14 :: x15 :: x16 :: x17 :: x18 :: x19 :: x20 :: x21 :: x22 :: x23 :: x24 :: x25 :: x26 :: x27 :: x28 :: x29 :: x30 :: x31 :: x32 :: x33 :: x34 :: x35 :: x36 :: x37 :: x38 :: x39 :: x40 :: x41 :: x42 :: x43 :: x44 :: x45 :: x46 :: x47 :: x48 :: x49 :: x50 :: x51 :: x52 :: x53 :: x54 :: x55 :: x56 :: x57 :: x58 :: x59 :: x60 :: x61 :: x62 :: x63 :: x64 :: x65 :: x66 :: x67 :: x68 :: x69 :: x70 :: x71 :: x72 :: x73 :: x74 :: x75 :: x76 :: x77 :: x78 :: x79 :: x80 :: x81 :: x82 :: x83 :: x84 :: x85 :: x86 :: x87 :: x88 :: x89 :: x90 :: x91 :: x92 :: x93 :: x94 :: x95 :: x96 :: x97 :: x98 :: x99 :: x100 :: x101 :: x102 :: x103 :: x104 :: x105 :: x106 :: x107 :: x108 :: x109 :: x110 :: x111 :: x112 :: x113 :: x114 :: x115 :: x116 :: x117 :: x118 :: x119 :: x120 :: []), []⟩ W := by
  have hq' := meet_comm hq hp (by omega) (by omega)
  by_cases cg : 1 ≤ gcdM p.st q.st
  · by_cases hm : modM p (gcdM p.st q.st) = modM q (gcdM p.st q.st)
    · exact great_tail1 w W A D p q x0 x1 x2 x3 x4 x5 x10 x11 x12 x13 x14 x15 x16 x17 x18 x19 x20 x21 x22 x23 x24 x25 x26 x27 x28 x29 x30 x31 x32 x33 x34 x35 x36 x37 x38 x39 x40 x41 x42 x43 x44 x45 x46 x47 x48 x49 x50 x51 x52 x53 x54 x55 x56 x57 x58 x59 x60 x61 x62 x63 x64 x65 x66 x67 x68 x69 x70 x71 x72 x73 x74 x75 x76 x77 x78 x79 x80 x81 x82 x83 x84 x85 x86 x87 x88 x89 x90 x91 x92 x93 x94 x95 x96 x97 x98 x99 x100 x101 x102 x103 x104 x105 x106 x107 x108 x109 x110 x111 x112 x113 x114 x115 x116 x117 x118 x119 x120 hC hp hq h3 h4 _ (Lib.hid rfl) _ _ (Lib.hid rfl) (Lib.hid rfl) _ (Lib.hid rfl) (Lib.hid hq') cg (by rw [hm]; simp)
    · have hn : (meetM p q).2 = false := by
        cases hb : (meetM p q).2
        · rfl
        · exact absurd (great_mod hp hq (by omega) (by omega) hb) hm
      by_cases c1 : (modM p (gcdM p.st q.st)).s.lo = (modM q (gcdM p.st q.st)).s.lo
      · by_cases c2 : (modM p (gcdM p.st q.st)).s.hi = (modM q (gcdM p.st q.st)).s.hi
        · by_cases c3 : (modM p (gcdM p.st q.st)).s.st = (modM q (gcdM p.st q.st)).s.st
          · exact great_tail1 w W A D p q x0 x1 x2 x3 x4 x5 x10 x11 x12 x13 x14 x15 x16 x17 x18 x19 x20 x21 x22 x23 x24 x25 x26 x27 x28 x29 x30 x31 x32 x33 x34 x35 x36 x37 x38 x39 x40 x41 x42 x43 x44 x45 x46 x47 x48 x49 x50 x51 x52 x53 x54 x55 x56 x57 x58 x59 x60 x61 x62 x63 x64 x65 x66 x67 x68 x69 x70 x71 x72 x73 x74 x75 x76 x77 x78 x79 x80 x81 x82 x83 x84 x85 x86 x87 x88 x89 x90 x91 x92 x93 x94 x95 x96 x97 x98 x99 x100 x101 x102 x103 x104 x105 x106 x107 x108 x109 x110 x111 x112 x113 x114 x115 x116 x117 x118 x119 x120 hC hp hq h3 h4 _ (Lib.hid rfl) _ _ (Lib.hid rfl) (Lib.hid rfl) _ (Lib.hid rfl) (Lib.hid hq') cg (by rw [c1, c2, c3]; simp)
          · exact great_tail2c w W A D p q x0 x1 x2 x3 x4 x5 x10 x11 x12 x13 x14 x15 x16 x17 x18 x19 x20 x21 x22 x23 x24 x25 x26 x27 x28 x29 x30 x31 x32 x33 x34 x35 x36 x37 x38 x39 x40 x41 x42 x43 x44 x45 x46 x47 x48 x49 x50 x51 x52 x53 x54 x55 x56 x57 x58 x59 x60 x61 x62 x63 x64 x65 x66 x67 x68 x69 x70 x71 x72 x73 x74 x75 x76 x77 x78 x79 x80 x81 x82 x83 x84 x85 x86 x87 x88 x89 x90 x91 x92 x93 x94 x95 x96 x97 x98 x99 x100 x101 x102 x103 x104 x105 x106 x107 x108 x109 x110 x111 x112 x113 x114 x115 x116 x117 x118 x119 x120 hC hp hq h3 h4 _ (Lib.hid rfl) _ _ (Lib.hid rfl) (Lib.hid rfl) _ (Lib.hid rfl) (Lib.hid hq') cg c1 c2 c3 hn
        · exact great_tail2b w W A D p q x0 x1 x2 x3 x4 x5 x10 x11 x12 x13 x14 x15 x16 x17 x18 x19 x20 x21 x22 x23 x24 x25 x26 x27 x28 x29 x30 x31 x32 x33 x34 x35 x36 x37 x38 x39 x40 x41 x42 x43 x44 x45 x46 x47 x48 x49 x50 x51 x52 x53 x54 x55 x56 x57 x58 x59 x60 x61 x62 x63 x64 x65 x66 x67 x68 x69 x70 x71 x72 x73 x74 x75 x76 x77 x78 x79 x80 x81 x82 x83 x84 x85 x86 x87 x88 x89 x90 x91 x92 x93 x94 x95 x96 x97 x98 x99 x100 x101 x102 x103 x104 x105 x106 x107 x108 x109 x110 x111 x112 x113 x114 x115 x116 x117 x118 x119 x120 hC hp hq h3 h4 _ (Lib.hid rfl) _ _ (Lib.hid rfl) (Lib.hid rfl) _ (Lib.hid rfl) (Lib.hid hq') cg c1 c2 hn
      · exact great_tail2a w W A D p q x0 x1 x2 x3 x4 x5 x10 x11 x12 x13 x14 x15 x16 x17 x18 x19 x20 x21 x22 x23 x24 x25 x26 x27 x28 x29 x30 x31 x32 x33 x34 x35 x36 x37 x38 x39 x40 x41 x42 x43 x44 x45 x46 x47 x48 x49 x50 x51 x52 x53 x54 x55 x56 x57 x58 x59 x60 x61 x62 x63 x64 x65 x66 x67 x68 x69 x70 x71 x72 x73 x74 x75 x76 x77 x78 x79 x80 x81 x82 x83 x84 x85 x86 x87 x88 x89 x90 x91 x92 x93 x94 x95 x96 x97 x98 x99 x100 x101 x102 x103 x104 x105 x106 x107 x108 x109 x110 x111 x112 x113 x114 x115 x116 x117 x118 x119 x120 hC hp hq h3 h4 _ (Lib.hid rfl) _ _ (Lib.hid rfl) (Lib.hid rfl) _ (Lib.hid rfl) (Lib.hid hq') cg c1 hn
  · exact great_tail3 w W A D p q x0 x1 x2 x3 x4 x5 x10 x11 x12 x13 x14 x15 x16 x17 x18 x19 x20 x21 x22 x23 x24 x25 x26 x27 x28 x29 x30 x31 x32 x33 x34 x35 x36 x37 x38 x39 x40 x41 x42 x43 x44 x45 x46 x47 x48 x49 x50 x51 x52 x53 x54 x55 x56 x57 x58 x59 x60 x61 x62 x63 x64 x65 x66 x67 x68 x69 x70 x71 x72 x73 x74 x75 x76 x77 x78 x79 x80 x81 x82 x83 x84 x85 x86 x87 x88 x89 x90 x91 x92 x93 x94 x95 x96 x97 x98 x99 x100 x101 x102 x103 x104 x105 x106 x107 x108 x109 x110 x111 x112 x113 x114 x115 x116 x117 x118 x119 x120 hC hp hq h3 h4 _ (Lib.hid rfl) _ _ (Lib.hid rfl) (Lib.hid rfl) _ (Lib.hid rfl) (Lib.hid hq') cg
end Go.Proofs.Ytnihhchgnkfcgaa
