/- SpanLeast: the last loop and the last two statements, as a text of its own. -/
import Derived.Test.YtnihhchgnkfcgaaWsa
-- USEBDN
set_option linter.unusedSimpArgs false
set_option linter.unusedVariables false
namespace Go.Proofs.Ytnihhchgnkfcgaa
open Go.ChangeShapes Go.WideShapes Go.ChangeAt Go.RowKit
noncomputable def leastEnd : Code := navC [1, 1, 1, 1, 1, 1, 1, 1, 1, 1, 1] (Try.f9.body.getD .skip)
set_option maxRecDepth 100000 in
set_option maxHeartbeats 8000000 in
theorem least_end_any (w : World) (A D Rb Lb G : Nat) (s t r0 r1 r2 r3 B0 B1 B2 B3 : Sp) (b0 b1 b2 b3 : Bool) (cap : Nat) (x0 x1 x2 x3 x4 x5 x6 x10 x14 x15 x16 x17 x18 x19 x20 x21 x22 x23 x24 x25 x26 x27 x28 x29 x30 x31 x32 x33 x34 x35 x36 x37 x38 x39 x40 x41 x42 x43 x44 x45 x46 x47 x48 x49 x50 x51 x52 x53 x54 x55 x56 x57 x58 x59 x60 x61 x62 x63 x64 x65 x66 x67 x68 x69 x70 x71 x72 x73 x74 x75 x76 x77 x78 x79 x80 x81 x82 x83 x84 x85 x86 x87 x88 x89 x90 x91 x92 x93 x94 x95 x96 x97 x98 x99 x100 x101 x102 x103 x104 x105 x106 x107 x108 x109 x110 x111 x112 x113 x114 x115 x116 x117 x118 x119 x120 x121 x122 x123 x124 x125 x126 x127 x128 x129 x130 x131 x132 x133 x134 x135 x136 x137 x138 x139 x140 x141 x142 x143 x144 x145 x146 x147 x148 x149 x150 x151 x152 x153 x154 x155 x156 x157 x158 x159 x160 x161 x162 x163 x164 x165 x166 x167 x168 x169 x170 x171 x172 x173 x174 x175 x176 x177 x178 x179 x180 x181 x182 x183 x184 x185 x186 x187 x188 x189 x190 x191 x192 x193 x194 x195 x196 x197 x198 x199 x200 x201 x202 x203 x204 x205 x206 x207 x208 x209 x210 x211 x212 x213 x214 x215 x216 x217 x218 x219 x220 x221 x222 x223 x224 x225 x226 x227 x228 x229 x230 x231 x232 x233 x234 x235 x236 x237 x238 x239 x240 x241 x242 x243 x244 x245 x246 x247 x248 x249 x250 x251 x252 x253 x254 x255 x256 x257 x258 x259 x260 x261 x262 x263 x264 x265 x266 x267 : Value) (s1 : -40 ≤ s.lo) (s2 : s.hi ≤ 166) (s3 : s.lo ≤ s.hi) (t1 : -40 ≤ t.lo) (t2 : t.hi ≤ 166) (t3 : t.lo ≤ t.hi) (e0 : r0.lo = s.lo + t.lo) (e1 : r0.hi = s.hi + t.hi) (e2 : r1.lo = s.lo - t.hi) (e3 : r1.hi = s.hi - t.lo) (e4 : r3.lo = min s.lo t.lo) (e5 : r3.hi = max s.hi t.hi) (W : World) (H0 : LeC w A D Rb Lb G s t r0 r1 r2 r3 B0 B1 B2 B3 b0 b1 b2 b3 W) :
    Code.wp Try.prog leastEnd (bodyPost Try.prog Try.f9 fun e w' => e = .returned (.bool true) ∧ Below w.heap.size w w') ⟨List.toArray (x0 :: x1 :: x2 :: x3 :: x4 :: x5 :: x6 :: .bool true :: .pointer (some ⟨A, 0, none⟩) :: .pointer (some ⟨D, 0, none⟩) :: x10 :: .slice (some ⟨Rb, 0, none⟩) 4 4 :: .slice (some ⟨Lb, 0, none⟩) 4 4 :: .slice (some ⟨G, 0, none⟩) 4 cap :: x14 :: x15 :: x16 :: x17 :: x18 :: x19 :: x20 :: x21 :: x22 :: x23 :: x24 :: x25 :: x26 :: x27 :: x28 :: x29 :: x30 :: x31 :: x32 :: x33 :: x34 :: x35 :: x36 :: x37 :: x38 :: x39 :: x40 :: x41 :: x42 :: x43 :: x44 :: x45 :: x46 :: x47 :: x48 :: x49 :: x50 :: x51 :: x52 :: x53 :: x54 :: x55 :: x56 :: x57 :: x58 :: x59 :: x60 :: x61 :: x62 :: x63 :: x64 :: x65 :: x66 :: x67 :: x68 :: x69 :: x70 :: x71 :: x72 :: x73 :: x74 :: x75 :: x76 :: x77 :: x78 :: x79 :: x80 :: x81 :: x82 :: x83 :: x84 :: x85 :: x86 :: x87 :: x88 :: x89 :: x90 :: x91 :: x92 :: x93 :: x94 :: x95 :: x96 :: x97 :: x98 :: x99 :: x100 :: x101 :: x102 :: x103 :: x104 :: x105 :: x106 :: x107 :: x108 :: x109 :: x110 :: x111 :: x112 :: x113 :: x114 :: x115 :: x116 :: x117 :: x118 :: x119 :: x120 :: x121 :: x122 :: x123 :: x124 :: x125 :: x126 :: x127 :: x128 :: x129 :: x130 :: x131 :: x132 :: x133 :: x134 :: x135 :: x136 :: x137 :: x138 :: x139 :: x140 :: x141 :: x142 :: x143 :: x144 :: x145 :: x146 :: x147 :: x148 :: x149 :: x150 :: x151 :: x152 :: x153 :: x154 :: x155 :: x156 :: x157 :: x158 :: x159 :: x160 :: x161 :: x162 :: x163 :: x164 :: x165 :: x166 :: x167 :: x168 :: x169 :: x170 :: x171 :: x172 :: x173 :: x174 :: x175 :: x176 :: x177 :: x178 :: x179 :: x180 :: x181 :: x182 :: x183 :: x184 :: x185 :: x186 :: x187 :: x188 :: x189 :: x190 :: x191 :: x192 :: x193 :: x194 :: x195 :: x196 :: x197 :: x198 :: x199 :: x200 :: x201 :: x202 :: x203 :: x204 :: x205 :: x206 :: x207 :: x208 :: x209 :: x210 :: x211 :: x212 :: x213 :: x214 :: x215 :: x216 :: x217 :: x218 :: x219 :: x220 :: x221 :: x222 :: x223 :: x224 :: x225 :: x226 :: x227 :: x228 :: x229 :: x230 :: x231 :: x232 :: x233 :: x234 :: x235 :: x236 :: x237 :: x238 :: x239 :: x240 :: x241 :: x242 :: x243 :: x244 :: x245 :: x246 :: x247 :: x248 :: x249 :: x250 :: x251 :: x252 :: x253 :: x254 :: x255 :: x256 :: x257 :: x258 :: x259 :: x260 :: x261 :: x262 :: x263 :: x264 :: x265 :: x266 :: x267 :: []), []⟩ W := by
  conv => arg 2; whnf
  have HC := Lib.hid H0; clear H0
  have l4 : ∃ x, r3.lo = x ∧ ((s.lo ≤ t.lo ∧ x = s.lo) ∨ (t.lo < s.lo ∧ x = t.lo)) := ⟨_, rfl, by omega⟩
  have l5 : ∃ x, r3.hi = x ∧ ((s.hi < t.hi ∧ x = t.hi) ∨ (t.hi ≤ s.hi ∧ x = s.hi)) := ⟨_, rfl, by omega⟩
  obtain ⟨x4, f4, h4⟩ := l4
  obtain ⟨x5, f5, h5⟩ := l5
  clear e4 e5
  have E4 := Lib.hid f4; have E5 := Lib.hid f5; have E0 := Lib.hid e0; have E1 := Lib.hid e1; have E2 := Lib.hid e2; have E3 := Lib.hid e3
  clear f4 f5 e0 e1 e2 e3
  have L4 := Lib.hid h4; have L5 := Lib.hid h5; clear h4 h5
  go_wp2_with fail
  refine Mild.region_mild 46 [] (LeC w A D Rb Lb G s t r0 r1 r2 r3 B0 B1 B2 B3 b0 b1 b2 b3) (by kernel_rfl) 268 (by kernel_rfl) rfl (by simp) LeC.step HC.out (by simp) ?H31
  apply Exists.intro
  refine ⟨?HW31, ?HT31⟩
  case HW31 =>
    intro W hW
    obtain ⟨g0, g1, g2⟩ := hW.fa
    obtain ⟨p0, p1, p2⟩ := hW.fd
    have q0 := hW.fr.a0; have q1 := hW.fr.a1; have q2 := hW.fr.b0; have q3 := hW.fr.b1
    rw [E0.out] at q0; rw [E1.out] at q1; rw [E2.out] at q2; rw [E3.out] at q3
    clear hW
    simp only [List.take_succ_cons, List.take_zero]
    repeat (apply Mild.walkM_q rfl; (go_wp2_with fail); (first | refine ⟨rfl, rfl, Below.refl _ _, ?_⟩ | refine ⟨rfl, rfl, hb, ?_⟩))
    exact Mild.walkM_end rfl
  case HT31 =>
    intro F w9 hC u1 u2
    clear u1 u2
    simp only [List.drop_succ_cons, List.drop_zero, Mild.putAll, List.foldl_cons, List.foldl_nil, Mild.ptrTo, Act.put, List.setIfInBounds_toArray, List.set_cons_zero, List.set_cons_succ]
    clear F HC
    have HC := Lib.hid hC
    clear hC
    go_wp2_with fail
    rcases L4.out with ⟨c4, rfl⟩ | ⟨c4, rfl⟩ <;> rcases L5.out with ⟨c5, rfl⟩ | ⟨c5, rfl⟩
    · clear L4 L5
      refine Mild.region_mild 28 [] (LeC w A D Rb Lb G s t r0 r1 r2 r3 B0 B1 B2 B3 b0 b1 b2 b3) (by kernel_rfl) 268 (by kernel_rfl) rfl (by simp) LeC.step HC.out (by simp) ?H32a
      apply Exists.intro
      refine ⟨?HW32a, ?HT32a⟩
      case HW32a =>
        intro W hW
        obtain ⟨g0, g1, g2⟩ := hW.fa
        obtain ⟨p0, p1, p2⟩ := hW.fd
        have q0 := hW.fr.d0; have q1 := hW.fr.d1
        rw [E4.out] at q0; rw [E5.out] at q1
        clear hW
        simp only [List.take_succ_cons, List.take_zero]
        repeat (apply Mild.walkM_q rfl; (go_wp2_with fail); (first | refine ⟨rfl, rfl, Below.refl _ _, ?_⟩ | refine ⟨rfl, rfl, hb, ?_⟩))
        exact Mild.walkM_end rfl
      case HT32a =>
        intro F w9 hC u1 u2
        clear u1 u2
        simp only [List.drop_succ_cons, List.drop_zero, Mild.putAll, List.foldl_cons, List.foldl_nil, Mild.ptrTo, Act.put, List.setIfInBounds_toArray, List.set_cons_zero, List.set_cons_succ]
        clear F HC
        have HC := Lib.hid hC
        clear hC
        have hB := HC.out.below
        clear HC
        go_wp2_with fail
        go_ret
        exact ⟨rfl, hB⟩
    · clear L4 L5
      refine Mild.region_mild 28 [] (LeC w A D Rb Lb G s t r0 r1 r2 r3 B0 B1 B2 B3 b0 b1 b2 b3) (by kernel_rfl) 268 (by kernel_rfl) rfl (by simp) LeC.step HC.out (by simp) ?H32b
      apply Exists.intro
      refine ⟨?HW32b, ?HT32b⟩
      case HW32b =>
        intro W hW
        obtain ⟨g0, g1, g2⟩ := hW.fa
        obtain ⟨p0, p1, p2⟩ := hW.fd
        have q0 := hW.fr.d0; have q1 := hW.fr.d1
        rw [E4.out] at q0; rw [E5.out] at q1
        clear hW
        simp only [List.take_succ_cons, List.take_zero]
        repeat (apply Mild.walkM_q rfl; (go_wp2_with fail); (first | refine ⟨rfl, rfl, Below.refl _ _, ?_⟩ | refine ⟨rfl, rfl, hb, ?_⟩))
        exact Mild.walkM_end rfl
      case HT32b =>
        intro F w9 hC u1 u2
        clear u1 u2
        simp only [List.drop_succ_cons, List.drop_zero, Mild.putAll, List.foldl_cons, List.foldl_nil, Mild.ptrTo, Act.put, List.setIfInBounds_toArray, List.set_cons_zero, List.set_cons_succ]
        clear F HC
        have HC := Lib.hid hC
        clear hC
        have hB := HC.out.below
        clear HC
        go_wp2_with fail
        go_ret
        exact ⟨rfl, hB⟩
    · clear L4 L5
      refine Mild.region_mild 28 [] (LeC w A D Rb Lb G s t r0 r1 r2 r3 B0 B1 B2 B3 b0 b1 b2 b3) (by kernel_rfl) 268 (by kernel_rfl) rfl (by simp) LeC.step HC.out (by simp) ?H32c
      apply Exists.intro
      refine ⟨?HW32c, ?HT32c⟩
      case HW32c =>
        intro W hW
        obtain ⟨g0, g1, g2⟩ := hW.fa
        obtain ⟨p0, p1, p2⟩ := hW.fd
        have q0 := hW.fr.d0; have q1 := hW.fr.d1
        rw [E4.out] at q0; rw [E5.out] at q1
        clear hW
        simp only [List.take_succ_cons, List.take_zero]
        repeat (apply Mild.walkM_q rfl; (go_wp2_with fail); (first | refine ⟨rfl, rfl, Below.refl _ _, ?_⟩ | refine ⟨rfl, rfl, hb, ?_⟩))
        exact Mild.walkM_end rfl
      case HT32c =>
        intro F w9 hC u1 u2
        clear u1 u2
        simp only [List.drop_succ_cons, List.drop_zero, Mild.putAll, List.foldl_cons, List.foldl_nil, Mild.ptrTo, Act.put, List.setIfInBounds_toArray, List.set_cons_zero, List.set_cons_succ]
        clear F HC
        have HC := Lib.hid hC
        clear hC
        have hB := HC.out.below
        clear HC
        go_wp2_with fail
        go_ret
        exact ⟨rfl, hB⟩
    · clear L4 L5
      refine Mild.region_mild 28 [] (LeC w A D Rb Lb G s t r0 r1 r2 r3 B0 B1 B2 B3 b0 b1 b2 b3) (by kernel_rfl) 268 (by kernel_rfl) rfl (by simp) LeC.step HC.out (by simp) ?H32d
      apply Exists.intro
      refine ⟨?HW32d, ?HT32d⟩
      case HW32d =>
        intro W hW
        obtain ⟨g0, g1, g2⟩ := hW.fa
        obtain ⟨p0, p1, p2⟩ := hW.fd
        have q0 := hW.fr.d0; have q1 := hW.fr.d1
        rw [E4.out] at q0; rw [E5.out] at q1
        clear hW
        simp only [List.take_succ_cons, List.take_zero]
        repeat (apply Mild.walkM_q rfl; (go_wp2_with fail); (first | refine ⟨rfl, rfl, Below.refl _ _, ?_⟩ | refine ⟨rfl, rfl, hb, ?_⟩))
        exact Mild.walkM_end rfl
      case HT32d =>
        intro F w9 hC u1 u2
        clear u1 u2
        simp only [List.drop_succ_cons, List.drop_zero, Mild.putAll, List.foldl_cons, List.foldl_nil, Mild.ptrTo, Act.put, List.setIfInBounds_toArray, List.set_cons_zero, List.set_cons_succ]
        clear F HC
        have HC := Lib.hid hC
        clear hC
        have hB := HC.out.below
        clear HC
        go_wp2_with fail
        go_ret
        exact ⟨rfl, hB⟩
end Go.Proofs.Ytnihhchgnkfcgaa

