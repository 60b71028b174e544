/- The walk of the reference's meet: behind the first common element. -/
import Derived.Test.YtnihhchgnkfcgaaWtc
import Derived.Test.YtnihhchgnkfcgaaCe
-- USEBDN
set_option linter.unusedSimpArgs false
set_option linter.unusedVariables false
namespace Go.Proofs.Ytnihhchgnkfcgaa
open Go.ChangeShapes Go.WideShapes Go.ChangeAt Go.RowKit
attribute [local go_sem high] run_min_mm run_max_mm
noncomputable def meetTail : Code := navC [1, 1, 1, 1, 1, 1, 1] (Try.f39.body.getD .skip)
set_option maxRecDepth 100000 in
set_option maxHeartbeats 2000000 in
theorem rmeet_tailA (w W : World) (s t : Sp) (m k : Int) (x0 x1 x5 x6 x9 x10 x11 x12 x13 x14 x15 x16 x17 x18 x19 x20 x21 x22 x23 x24 x25 x26 x27 x28 x29 x30 x31 x32 x33 x34 x35 x36 x37 x38 x39 x40 x41 x42 x43 x44 x45 x46 x47 x48 x49 x50 x51 x52 x53 x54 x55 x56 x57 x58 x59 x60 x61 x62 x63 x64 x65 x66 x67 x68 x69 x70 x71 x72 x73 x74 x75 x76 x77 x78 x79 x80 x81 x82 x83 x84 x85 x86 x87 x88 x89 x90 x91 x92 x93 x94 x95 x96 x97 x98 x99 x100 x101 x102 x103 x104 x105 x106 x107 x108 x109 x110 x111 x112 x113 x114 x115 x116 x117 x118 x119 x120 x121 x122 x123 x124 x125 x126 x127 x128 x129 x130 x131 x132 x133 x134 x135 x136 x137 x138 x139 x140 x141 x142 x143 x144 x145 x146 x147 x148 x149 x150 x151 x152 x153 x154 x155 x156 x157 x158 x159 x160 x161 x162 x163 x164 x165 x166 x167 x168 x169 x170 x171 : Value) (hs : Vld s) (ht : Vld t) (s1 : 1 ≤ s.st) (m1 : 1 ≤ m) (s2 : s.st ≤ 16777216) (m2 : m ≤ 16777216) (k0 : 0 ≤ k) (k1 : k ≤ 4398046511104) (H : RefC w s t zmet W) (hc : min s.hi t.hi < s.lo) :
    Code.wp Try.prog meetTail (bodyPost Try.prog Try.f39 fun e w' => e = .returned (met (rmeetM s t m k)) ∧ Below w.heap.size w w') ⟨List.toArray (x0 :: x1 :: .pointer (some ⟨w.heap.size, 0, none⟩) :: .pointer (some ⟨w.heap.size + 1, 0, none⟩) :: .pointer (some ⟨w.heap.size + 2, 0, none⟩) :: x5 :: x6 :: .int .i64 m :: .int .i64 k :: x9 :: x10 :: x11 :: x12 :: x13 :: x14 :: x15 :: x16 :: x17 :: x18 :: x19 :: x20 :: x21 :: x22 :: x23 :: x24 :: x25 :: x26 :: x27 :: x28 :: x29 :: x30 :: x31 :: x32 :: x33 :: x34 :: x35 :: x36 :: x37 :: x38 :: x39 :: x40 :: x41 :: x42 :: x43 :: x44 :: x45 :: x46 :: x47 :: x48 :: x49 :: x50 :: x51 :: x52 :: x53 :: x54 :: x55 :: x56 :: x57 :: x58 :: x59 :: x60 :: x61 :: x62 :: x63 :: x64 :: x65 :: x66 :: x67 :: x68 :: x69 :: x70 :: x71 :: x72 :: x73 :: x74 :: x75 :: x76 :: x77 :: x78 :: x79 :: x80 :: x81 :: x82 :: x83 :: x84 :: x85 :: x86 :: x87 :: x88 :: x89 :: x90 :: x91 :: x92 :: x93 :: x94 :: x95 :: x96 :: x97 :: x98 :: x99 :: x100 :: x101 :: x102 :: x103 :: x104 :: x105 :: x106 :: x107 :: x108 :: x109 :: x110 :: x111 :: x112 :: x113 :: x114 :: x115 :: x116 :: x117 :: x118 :: x119 :: x120 :: x121 :: x122 :: x123 :: x124 :: x125 :: x126 :: x127 :: x128 :: x129 :: x130 :: x131 :: x132 :: x133 :: x134 :: x135 :: x136 :: x137 :: x138 :: x139 :: x140 :: x141 :: x142 :: x143 :: x144 :: x145 :: x146 :: x147 :: x148 :: x149 :: x150 :: x151 :: x152 :: x153 :: x154 :: x155 :: x156 :: x157 :: x158 :: x159 :: x160 :: x161 :: x162 :: x163 :: x164 :: x165 :: x166 :: x167 :: x168 :: x169 :: x170 :: x171 :: []), []⟩ W := by
  conv => arg 2; whnf
  have HC := Lib.hid H; clear H
  have h1 := hs.lo; have h2 := hs.hi; have h3 := hs.le
  have i1 := ht.lo; have i2 := ht.hi; have i3 := ht.le
  have sne : ¬ s.st = 0 := by omega
  have mne : ¬ m = 0 := by omega
  have hD := Lib.hid (show rmeetM s t m k = (zsp, false) by unfold rmeetM; rw [if_pos (.inl hc)])
  have z1 : -4398046511104 ≤ (min s.hi t.hi - s.lo).tdiv s.st ∧ (min s.hi t.hi - s.lo).tdiv s.st ≤ 4398046511104 := by
    have := Int.natAbs_tdiv_le_natAbs (min s.hi t.hi - s.lo) s.st
    omega
  obtain ⟨z1, z2⟩ := z1
  have dc : decide (min s.hi t.hi < s.lo) = true := by simpa using hc
  clear hc
  obtain ⟨g0, g1, g2⟩ := HC.out.fs; obtain ⟨p0, p1, p2⟩ := HC.out.ft; have c4 := Mild.cell_of_block HC.out.fz; have f4 := Mild.free_of_block HC.out.fz; have hB := HC.out.below; have hz := HC.out.big
  go_wp2_with fail
  exact bodyPost_ret (v := .agg #[.int .i64 0, .int .i64 0, .int .i64 0, .bool false]) (by simp [results, Try.results39, go_sem, *]; done) rfl ⟨by rw [hD.out]; rfl, by (repeat' (first | (with_reducible exact Below.refl _ _) | (with_reducible assumption) | (with_reducible refine Below.alloc ?_ ?_ _) | (with_reducible refine Below.drew ?_) | (with_reducible refine bdn ?_ _) | (with_reducible refine Below.setCell ?_ ?_ _) | go_size))⟩
set_option maxRecDepth 100000 in
set_option maxHeartbeats 2000000 in
theorem rmeet_tailB (w W : World) (s t : Sp) (m k : Int) (x0 x1 x5 x6 x9 x10 x11 x12 x13 x14 x15 x16 x17 x18 x19 x20 x21 x22 x23 x24 x25 x26 x27 x28 x29 x30 x31 x32 x33 x34 x35 x36 x37 x38 x39 x40 x41 x42 x43 x44 x45 x46 x47 x48 x49 x50 x51 x52 x53 x54 x55 x56 x57 x58 x59 x60 x61 x62 x63 x64 x65 x66 x67 x68 x69 x70 x71 x72 x73 x74 x75 x76 x77 x78 x79 x80 x81 x82 x83 x84 x85 x86 x87 x88 x89 x90 x91 x92 x93 x94 x95 x96 x97 x98 x99 x100 x101 x102 x103 x104 x105 x106 x107 x108 x109 x110 x111 x112 x113 x114 x115 x116 x117 x118 x119 x120 x121 x122 x123 x124 x125 x126 x127 x128 x129 x130 x131 x132 x133 x134 x135 x136 x137 x138 x139 x140 x141 x142 x143 x144 x145 x146 x147 x148 x149 x150 x151 x152 x153 x154 x155 x156 x157 x158 x159 x160 x161 x162 x163 x164 x165 x166 x167 x168 x169 x170 x171 : Value) (hs : Vld s) (ht : Vld t) (s1 : 1 ≤ s.st) (m1 : 1 ≤ m) (s2 : s.st ≤ 16777216) (m2 : m ≤ 16777216) (k0 : 0 ≤ k) (k1 : k ≤ 4398046511104) (H : RefC w s t zmet W) (hc : s.lo ≤ min s.hi t.hi) (hl : rLast s t < k) :
    Code.wp Try.prog meetTail (bodyPost Try.prog Try.f39 fun e w' => e = .returned (met (rmeetM s t m k)) ∧ Below w.heap.size w w') ⟨List.toArray (x0 :: x1 :: .pointer (some ⟨w.heap.size, 0, none⟩) :: .pointer (some ⟨w.heap.size + 1, 0, none⟩) :: .pointer (some ⟨w.heap.size + 2, 0, none⟩) :: x5 :: x6 :: .int .i64 m :: .int .i64 k :: x9 :: x10 :: x11 :: x12 :: x13 :: x14 :: x15 :: x16 :: x17 :: x18 :: x19 :: x20 :: x21 :: x22 :: x23 :: x24 :: x25 :: x26 :: x27 :: x28 :: x29 :: x30 :: x31 :: x32 :: x33 :: x34 :: x35 :: x36 :: x37 :: x38 :: x39 :: x40 :: x41 :: x42 :: x43 :: x44 :: x45 :: x46 :: x47 :: x48 :: x49 :: x50 :: x51 :: x52 :: x53 :: x54 :: x55 :: x56 :: x57 :: x58 :: x59 :: x60 :: x61 :: x62 :: x63 :: x64 :: x65 :: x66 :: x67 :: x68 :: x69 :: x70 :: x71 :: x72 :: x73 :: x74 :: x75 :: x76 :: x77 :: x78 :: x79 :: x80 :: x81 :: x82 :: x83 :: x84 :: x85 :: x86 :: x87 :: x88 :: x89 :: x90 :: x91 :: x92 :: x93 :: x94 :: x95 :: x96 :: x97 :: x98 :: x99 :: x100 :: x101 :: x102 :: x103 :: x104 :: x105 :: x106 :: x107 :: x108 :: x109 :: x110 :: x111 :: x112 :: x113 :: x114 :: x115 :: x116 :: x117 :: x118 :: x119 :: x120 :: x121 :: x122 :: x123 :: x124 :: x125 :: x126 :: x127 :: x128 :: x129 :: x130 :: x131 :: x132 :: x133 :: x134 :: x135 :: x136 :: x137 :: x138 :: x139 :: x140 :: x141 :: x142 :: x143 :: x144 :: x145 :: x146 :: x147 :: x148 :: x149 :: x150 :: x151 :: x152 :: x153 :: x154 :: x155 :: x156 :: x157 :: x158 :: x159 :: x160 :: x161 :: x162 :: x163 :: x164 :: x165 :: x166 :: x167 :: x168 :: x169 :: x170 :: x171 :: []), []⟩ W := by
  conv => arg 2; whnf
  have HC := Lib.hid H; clear H
  have h1 := hs.lo; have h2 := hs.hi; have h3 := hs.le
  have i1 := ht.lo; have i2 := ht.hi; have i3 := ht.le
  have sne : ¬ s.st = 0 := by omega
  have mne : ¬ m = 0 := by omega
  have hD := Lib.hid (show rmeetM s t m k = (zsp, false) by unfold rmeetM; rw [if_pos (.inr hl)])
  have q0 : 0 ≤ min s.hi t.hi - s.lo := by omega
  have hq : (min s.hi t.hi - s.lo).tdiv s.st = rLast s t := Int.tdiv_eq_ediv_of_nonneg q0
  have hq2 : (min s.hi t.hi - s.lo) / s.st = rLast s t := rfl
  have z1 : 0 ≤ rLast s t := Int.ediv_nonneg q0 (by omega)
  have z2 : rLast s t ≤ min s.hi t.hi - s.lo := Int.ediv_le_self _ q0
  have dc : decide (min s.hi t.hi < s.lo) = false := by simpa using hc
  have dl : decide (rLast s t < k) = true := by simpa using hl
  generalize rLast s t = la at *
  clear hc hl
  obtain ⟨g0, g1, g2⟩ := HC.out.fs; obtain ⟨p0, p1, p2⟩ := HC.out.ft; have c4 := Mild.cell_of_block HC.out.fz; have f4 := Mild.free_of_block HC.out.fz; have hB := HC.out.below; have hz := HC.out.big
  go_wp2_with fail
  exact bodyPost_ret (v := .agg #[.int .i64 0, .int .i64 0, .int .i64 0, .bool false]) (by simp [results, Try.results39, go_sem, *]; done) rfl ⟨by rw [hD.out]; rfl, by (repeat' (first | (with_reducible exact Below.refl _ _) | (with_reducible assumption) | (with_reducible refine Below.alloc ?_ ?_ _) | (with_reducible refine Below.drew ?_) | (with_reducible refine bdn ?_ _) | (with_reducible refine Below.setCell ?_ ?_ _) | go_size))⟩
set_option maxRecDepth 100000 in
set_option maxHeartbeats 2000000 in
theorem rmeet_tailC (w W : World) (s t : Sp) (m k : Int) (x0 x1 x5 x6 x9 x10 x11 x12 x13 x14 x15 x16 x17 x18 x19 x20 x21 x22 x23 x24 x25 x26 x27 x28 x29 x30 x31 x32 x33 x34 x35 x36 x37 x38 x39 x40 x41 x42 x43 x44 x45 x46 x47 x48 x49 x50 x51 x52 x53 x54 x55 x56 x57 x58 x59 x60 x61 x62 x63 x64 x65 x66 x67 x68 x69 x70 x71 x72 x73 x74 x75 x76 x77 x78 x79 x80 x81 x82 x83 x84 x85 x86 x87 x88 x89 x90 x91 x92 x93 x94 x95 x96 x97 x98 x99 x100 x101 x102 x103 x104 x105 x106 x107 x108 x109 x110 x111 x112 x113 x114 x115 x116 x117 x118 x119 x120 x121 x122 x123 x124 x125 x126 x127 x128 x129 x130 x131 x132 x133 x134 x135 x136 x137 x138 x139 x140 x141 x142 x143 x144 x145 x146 x147 x148 x149 x150 x151 x152 x153 x154 x155 x156 x157 x158 x159 x160 x161 x162 x163 x164 x165 x166 x167 x168 x169 x170 x171 : Value) (hs : Vld s) (ht : Vld t) (s1 : 1 ≤ s.st) (m1 : 1 ≤ m) (s2 : s.st ≤ 16777216) (m2 : m ≤ 16777216) (k0 : 0 ≤ k) (k1 : k ≤ 4398046511104) (H : RefC w s t zmet W) (hc : s.lo ≤ min s.hi t.hi) (hl : k ≤ rLast s t) :
    Code.wp Try.prog meetTail (bodyPost Try.prog Try.f39 fun e w' => e = .returned (met (rmeetM s t m k)) ∧ Below w.heap.size w w') ⟨List.toArray (x0 :: x1 :: .pointer (some ⟨w.heap.size, 0, none⟩) :: .pointer (some ⟨w.heap.size + 1, 0, none⟩) :: .pointer (some ⟨w.heap.size + 2, 0, none⟩) :: x5 :: x6 :: .int .i64 m :: .int .i64 k :: x9 :: x10 :: x11 :: x12 :: x13 :: x14 :: x15 :: x16 :: x17 :: x18 :: x19 :: x20 :: x21 :: x22 :: x23 :: x24 :: x25 :: x26 :: x27 :: x28 :: x29 :: x30 :: x31 :: x32 :: x33 :: x34 :: x35 :: x36 :: x37 :: x38 :: x39 :: x40 :: x41 :: x42 :: x43 :: x44 :: x45 :: x46 :: x47 :: x48 :: x49 :: x50 :: x51 :: x52 :: x53 :: x54 :: x55 :: x56 :: x57 :: x58 :: x59 :: x60 :: x61 :: x62 :: x63 :: x64 :: x65 :: x66 :: x67 :: x68 :: x69 :: x70 :: x71 :: x72 :: x73 :: x74 :: x75 :: x76 :: x77 :: x78 :: x79 :: x80 :: x81 :: x82 :: x83 :: x84 :: x85 :: x86 :: x87 :: x88 :: x89 :: x90 :: x91 :: x92 :: x93 :: x94 :: x95 :: x96 :: x97 :: x98 :: x99 :: x100 :: x101 :: x102 :: x103 :: x104 :: x105 :: x106 :: x107 :: x108 :: x109 :: x110 :: x111 :: x112 :: x113 :: x114 :: x115 :: x116 :: x117 :: x118 :: x119 :: x120 :: x121 :: x122 :: x123 :: x124 :: x125 :: x126 :: x127 :: x128 :: x129 :: x130 :: x131 :: x132 :: x133 :: x134 :: x135 :: x136 :: x137 :: x138 :: x139 :: x140 :: x141 :: x142 :: x143 :: x144 :: x145 :: x146 :: x147 :: x148 :: x149 :: x150 :: x151 :: x152 :: x153 :: x154 :: x155 :: x156 :: x157 :: x158 :: x159 :: x160 :: x161 :: x162 :: x163 :: x164 :: x165 :: x166 :: x167 :: x168 :: x169 :: x170 :: x171 :: []), []⟩ W := by
  conv => arg 2; whnf
  have HC := Lib.hid H; clear H
  have h1 := hs.lo; have h2 := hs.hi; have h3 := hs.le
  have i1 := ht.lo; have i2 := ht.hi; have i3 := ht.le
  have sne : ¬ s.st = 0 := by omega
  have mne : ¬ m = 0 := by omega
  have q0 : 0 ≤ min s.hi t.hi - s.lo := by omega
  have hq : (min s.hi t.hi - s.lo).tdiv s.st = rLast s t := Int.tdiv_eq_ediv_of_nonneg q0
  have hq2 : (min s.hi t.hi - s.lo) / s.st = rLast s t := rfl
  have z0 : rLast s t * s.st ≤ min s.hi t.hi - s.lo := Int.ediv_mul_le _ (by omega)
  have z1 : 0 ≤ rLast s t := Int.ediv_nonneg q0 (by omega)
  have z2 : rLast s t ≤ min s.hi t.hi - s.lo := Int.ediv_le_self _ q0
  have hD0 := Lib.hid (show rmeetM s t m k = (madeM (s.lo + s.st * k) (s.lo + s.st * (k + (rLast s t - k) / m * m)) (s.st * max (min m ((rLast s t - k) / m * m)) 1), true) by unfold rmeetM; rw [if_neg (by omega)])
  have dc : decide (min s.hi t.hi < s.lo) = false := by simpa using hc
  have dl : decide (rLast s t < k) = false := by simpa using hl
  generalize rLast s t = la at *
  obtain ⟨c, hcn⟩ : ∃ c, c = (la - k) / m := ⟨_, rfl⟩
  have c0 : 0 ≤ c := by rw [hcn]; exact Int.ediv_nonneg (by omega) (by omega)
  have c1 : c * m ≤ la - k := by rw [hcn]; exact Int.ediv_mul_le _ (by omega)
  have c2 : c ≤ la - k := by rw [hcn]; exact Int.ediv_le_self _ (by omega)
  have c3 : 0 ≤ c * m := Int.mul_nonneg c0 (by omega)
  have hc1 : (la - k).tdiv m = c := by rw [hcn]; exact Int.tdiv_eq_ediv_of_nonneg (by omega)
  have hc2 : (la - k) / m = c := hcn.symm
  rw [← hcn] at hD0
  clear hcn
  have u1 : 0 ≤ s.st * k := Int.mul_nonneg (by omega) k0
  have u2 : s.st * k ≤ s.st * (k + c * m) := Int.mul_le_mul_of_nonneg_left (by omega) (by omega)
  have u3 : s.st * (k + c * m) ≤ s.st * la := Int.mul_le_mul_of_nonneg_left (by omega) (by omega)
  have u4 : s.st * la ≤ 2199023255552 := by rw [Int.mul_comm]; omega
  obtain ⟨mx, hmx⟩ : ∃ x, x = max (min m (c * m)) 1 := ⟨_, rfl⟩
  have v1 : 1 ≤ mx := by omega
  have v2 : mx ≤ 16777216 := by omega
  have v3 : 0 ≤ s.st * mx := Int.mul_nonneg (by omega) (by omega)
  have v4 : s.st * mx ≤ 16777216 * 16777216 := Int.mul_le_mul s2 v2 (by omega) (by omega)
  have hD := Lib.hid (show rmeetM s t m k = (madeM (s.lo + s.st * k) (s.lo + s.st * (k + c * m)) (s.st * mx), true) by rw [hmx]; exact hD0.out)
  have hM1 := hmx.symm
  clear hc hl hD0 hmx z0
  obtain ⟨g0, g1, g2⟩ := HC.out.fs; obtain ⟨p0, p1, p2⟩ := HC.out.ft; have c4 := Mild.cell_of_block HC.out.fz; have f4 := Mild.free_of_block HC.out.fz; have hB := HC.out.below; have hz := HC.out.big
  go_wp2_with (go_at_call 41; (with_reducible refine (rmade_any (s.lo + s.st * k) (s.lo + s.st * (k + c * m)) (s.st * mx) _).mono ?_); rintro e w1 ⟨rfl, hb⟩; replace HC := Lib.hid (RefC.step _ _ HC.out hb); clear g0 g1 g2 p0 p1 p2 c4 f4 hB hz hb; obtain ⟨g0, g1, g2⟩ := HC.out.fs; obtain ⟨p0, p1, p2⟩ := HC.out.ft; have c4 := Mild.cell_of_block HC.out.fz; have f4 := Mild.free_of_block HC.out.fz; have hB := HC.out.below; have hz := HC.out.big)
  exact bodyPost_ret (v := met (madeM (s.lo + s.st * k) (s.lo + s.st * (k + c * m)) (s.st * mx), true)) (by simp [results, Try.results39, go_sem, *]; done) rfl ⟨by rw [hD.out], by (repeat' (first | (with_reducible exact Below.refl _ _) | (with_reducible assumption) | (with_reducible refine Below.alloc ?_ ?_ _) | (with_reducible refine Below.drew ?_) | (with_reducible refine bdn ?_ _) | (with_reducible refine Below.setCell ?_ ?_ _) | go_size))⟩
theorem rmeet_tail (w W : World) (s t : Sp) (m k : Int) (x0 x1 x5 x6 x9 x10 x11 x12 x13 x14 x15 x16 x17 x18 x19 x20 x21 x22 x23 x24 x25 x26 x27 x28 x29 x30 x31 x32 x33 x34 x35 x36 x37 x38 x39 x40 x41 x42 x43 x44 x45 x46 x47 x48 x49 x50 x51 x52 x53 x54 x55 x56 x57 x58 x59 x60 x61 x62 x63 x64 x65 x66 x67 x68 x69 x70 x71 x72 x73 x74 x75 x76 x77 x78 x79 x80 x81 x82 x83 x84 x85 x86 x87 x88 x89 x90 x91 x92 x93 x94 x95 x96 x97 x98 x99 x100 x101 x102 x103 x104 x105 x106 x107 x108 x109 x110 x111 x112 x113 x114 x115 x116 x117 x118 x119 x120 x121 x122 x123 x124 x125 x126 x127 x128 x129 x130 x131 x132 x133 x134 x135 x136 x137 x138 x139 x140 x141 x142 x143 x144 x145 x146 x147 x148 x149 x150 x151 x152 x153 x154 x155 x156 x157 x158 x159 x160 x161 x162 x163 x164 x165 x166 x167 x168 x169 x170 x171 : Value) (hs : Vld s) (ht : Vld t) (s1 : 1 ≤ s.st) (m1 : 1 ≤ m) (s2 : s.st ≤ 16777216) (m2 : m ≤ 16777216) (k0 : 0 ≤ k) (k1 : k ≤ 4398046511104) (H : RefC w s t zmet W) :
    Code.wp Try.prog meetTail (bodyPost Try.prog Try.f39 fun e w' => e = .returned (met (rmeetM s t m k)) ∧ Below w.heap.size w w') ⟨List.toArray (x0 :: x1 :: .pointer (some ⟨w.heap.size, 0, none⟩) :: .pointer (some ⟨w.heap.size + 1, 0, none⟩) :: .pointer (some ⟨w.heap.size + 2, 0, none⟩) :: x5 :: x6 :: .int .i64 m :: .int .i64 k :: x9 :: x10 :: x11 :: x12 :: x13 :: x14 :: x15 :: x16 :: x17 :: x18 :: x19 :: x20 :: x21 :: x22 :: x23 :: x24 :: x25 :: x26 :: x27 :: x28 :: x29 :: x30 :: x31 :: x32 :: x33 :: x34 :: x35 :: x36 :: x37 :: x38 :: x39 :: x40 :: x41 :: x42 :: x43 :: x44 :: x45 :: x46 :: x47 :: x48 :: x49 :: x50 :: x51 :: x52 :: x53 :: x54 :: x55 :: x56 :: x57 :: x58 :: x59 :: x60 :: x61 :: x62 :: x63 :: x64 :: x65 :: x66 :: x67 :: x68 :: x69 :: x70 :: x71 :: x72 :: x73 :: x74 :: x75 :: x76 :: x77 :: x78 :: x79 :: x80 :: x81 :: x82 :: x83 :: x84 :: x85 :: x86 :: x87 :: x88 :: x89 :: x90 :: x91 :: x92 :: x93 :: x94 :: x95 :: x96 :: x97 :: x98 :: x99 :: x100 :: x101 :: x102 :: x103 :: x104 :: x105 :: x106 :: x107 :: x108 :: x109 :: x110 :: x111 :: x112 :: x113 :: x114 :: x115 :: x116 :: x117 :: x118 :: x119 :: x120 :: x121 :: x122 :: x123 :: x124 :: x125 :: x126 :: x127 :: x128 :: x129 :: x130 :: x131 :: x132 :: x133 :: x134 :: x135 :: x136 :: x137 :: x138 :: x139 :: x140 :: x141 :: x142 :: x143 :: x144 :: x145 :: x146 :: x147 :: x148 :: x149 :: x150 :: x151 :: x152 :: x153 :: x154 :: x155 :: x156 :: x157 :: x158 :: x159 :: x160 :: x161 :: x162 :: x163 :: x164 :: x165 :: x166 :: x167 :: x168 :: x169 :: x170 :: x171 :: []), []⟩ W := by
  by_cases c1 : min s.hi t.hi < s.lo
  · exact rmeet_tailA w W s t m k x0 x1 x5 x6 x9 x10 x11 x12 x13 x14 x15 x16 x17 x18 x19 x20 x21 x22 x23 x24 x25 x26 x27 x28 x29 x30 x31 x32 x33 x34 x35 x36 x37 x38 x39 x40 x41 x42 x43 x44 x45 x46 x47 x48 x49 x50 x51 x52 x53 x54 x55 x56 x57 x58 x59 x60 x61 x62 x63 x64 x65 x66 x67 x68 x69 x70 x71 x72 x73 x74 x75 x76 x77 x78 x79 x80 x81 x82 x83 x84 x85 x86 x87 x88 x89 x90 x91 x92 x93 x94 x95 x96 x97 x98 x99 x100 x101 x102 x103 x104 x105 x106 x107 x108 x109 x110 x111 x112 x113 x114 x115 x116 x117 x118 x119 x120 x121 x122 x123 x124 x125 x126 x127 x128 x129 x130 x131 x132 x133 x134 x135 x136 x137 x138 x139 x140 x141 x142 x143 x144 x145 x146 x147 x148 x149 x150 x151 x152 x153 x154 x155 x156 x157 x158 x159 x160 x161 x162 x163 x164 x165 x166 x167 x168 x169 x170 x171 hs ht s1 m1 s2 m2 k0 k1 H c1
  · by_cases c2 : rLast s t < k
    · exact rmeet_tailB w W s t m k x0 x1 x5 x6 x9 x10 x11 x12 x13 x14 x15 x16 x17 x18 x19 x20 x21 x22 x23 x24 x25 x26 x27 x28 x29 x30 x31 x32 x33 x34 x35 x36 x37 x38 x39 x40 x41 x42 x43 x44 x45 x46 x47 x48 x49 x50 x51 x52 x53 x54 x55 x56 x57 x58 x59 x60 x61 x62 x63 x64 x65 x66 x67 x68 x69 x70 x71 x72 x73 x74 x75 x76 x77 x78 x79 x80 x81 x82 x83 x84 x85 x86 x87 x88 x89 x90 x91 x92 x93 x94 x95 x96 x97 x98 x99 x100 x101 x102 x103 x104 x105 x106 x107 x108 x109 x110 x111 x112 x113 x114 x115 x116 x117 x118 x119 x120 x121 x122 x123 x124 x125 x126 x127 x128 x129 x130 x131 x132 x133 x134 x135 x136 x137 x138 x139 x140 x141 x142 x143 x144 x145 x146 x147 x148 x149 x150 x151 x152 x153 x154 x155 x156 x157 x158 x159 x160 x161 x162 x163 x164 x165 x166 x167 x168 x169 x170 x171 hs ht s1 m1 s2 m2 k0 k1 H (by omega) c2
    · exact rmeet_tailC w W s t m k x0 x1 x5 x6 x9 x10 x11 x12 x13 x14 x15 x16 x17 x18 x19 x20 x21 x22 x23 x24 x25 x26 x27 x28 x29 x30 x31 x32 x33 x34 x35 x36 x37 x38 x39 x40 x41 x42 x43 x44 x45 x46 x47 x48 x49 x50 x51 x52 x53 x54 x55 x56 x57 x58 x59 x60 x61 x62 x63 x64 x65 x66 x67 x68 x69 x70 x71 x72 x73 x74 x75 x76 x77 x78 x79 x80 x81 x82 x83 x84 x85 x86 x87 x88 x89 x90 x91 x92 x93 x94 x95 x96 x97 x98 x99 x100 x101 x102 x103 x104 x105 x106 x107 x108 x109 x110 x111 x112 x113 x114 x115 x116 x117 x118 x119 x120 x121 x122 x123 x124 x125 x126 x127 x128 x129 x130 x131 x132 x133 x134 x135 x136 x137 x138 x139 x140 x141 x142 x143 x144 x145 x146 x147 x148 x149 x150 x151 x152 x153 x154 x155 x156 x157 x158 x159 x160 x161 x162 x163 x164 x165 x166 x167 x168 x169 x170 x171 hs ht s1 m1 s2 m2 k0 k1 H (by omega) (by omega)
end Go.Proofs.Ytnihhchgnkfcgaa

