/- SpanLeast: the loop over the four results, as a text of its own. -/
import Derived.Test.YtnihhchgnkfcgaaWsa
-- USEBDN
set_option linter.unusedSimpArgs false
set_option linter.unusedVariables false
namespace Go.Proofs.Ytnihhchgnkfcgaa
open Go.ChangeShapes Go.WideShapes Go.ChangeAt Go.RowKit
/-- What is known of a result and its great span. -/
structure LeK (r B : Sp) (b : Bool) : Prop where
  vr : Vld r
  vB : Vld B
  e : insideB r B = b
noncomputable def leastChk : Code := navC [1, 1, 1, 1, 1, 1, 1, 1, 1, 1, 0] (Try.f9.body.getD .skip)
set_option maxRecDepth 100000 in
set_option maxHeartbeats 8000000 in
theorem least_chk_any (w : World) (A D Rb Lb G : Nat) (s t r0 r1 r2 r3 B0 B1 B2 B3 : Sp) (b0 b1 b2 b3 : Bool) (cap : Nat) (x0 x1 x2 x3 x4 x5 x6 x7 x8 x9 x10 x14 x15 x16 x17 x18 x19 x20 x21 x22 x23 x24 x25 x26 x27 x28 x29 x30 x31 x32 x33 x34 x35 x36 x37 x38 x39 x40 x41 x42 x43 x44 x45 x46 x47 x48 x49 x50 x51 x52 x53 x54 x55 x56 x57 x58 x59 x60 x61 x62 x63 x64 x65 x66 x67 x68 x69 x70 x71 x72 x73 x74 x75 x76 x77 x78 x79 x80 x81 x82 x83 x84 x85 x86 x87 x88 x89 x90 x91 x92 x93 x94 x95 x96 x97 x98 x99 x100 x101 x102 x103 x104 x105 x106 x107 x108 x109 x110 x111 x112 x113 x114 x115 x116 x117 x118 x119 x120 x121 x122 x123 x124 x125 x126 x127 x128 x129 x130 x131 x132 x133 x134 x135 x136 x137 x138 x139 x140 x141 x142 x143 x144 x145 x146 x147 x148 x149 x150 x151 x152 x153 x154 x155 x156 x157 x158 x159 x160 x161 x162 x163 x164 x165 x166 x167 x168 x169 x170 x171 x172 x173 x174 x175 x176 x177 x178 x179 x180 x181 x182 x183 x184 x185 x186 x187 x188 x189 x190 x191 x192 x193 x194 x195 x196 x197 x198 x199 x200 x201 x202 x203 x204 x205 x206 x207 x208 x209 x210 x211 x212 x213 x214 x215 x216 x217 x218 x219 x220 x221 x222 x223 x224 x225 x226 x227 x228 x229 x230 x231 x232 x233 x234 x235 x236 x237 x238 x239 x240 x241 x242 x243 x244 x245 x246 x247 x248 x249 x250 x251 x252 x253 x254 x255 x256 x257 x258 x259 x260 x261 x262 x263 x264 x265 x266 x267 : Value) (K0 : LeK r0 B0 b0) (K1 : LeK r1 B1 b1) (K2 : LeK r2 B2 b2) (K3 : LeK r3 B3 b3) (W : World) (H0 : LeC w A D Rb Lb G s t r0 r1 r2 r3 B0 B1 B2 B3 b0 b1 b2 b3 W) (Q0 : Exit → Act → World → Prop)
    (hQ : ∀ (y6 y18 y168 y169 y170 y171 y172 y173 y174 y175 y176 y177 y178 y179 y180 y181 y182 y183 y184 y185 y186 y187 y188 y189 y190 y191 y192 y193 : Value) (W' : World), Hid (LeC w A D Rb Lb G s t r0 r1 r2 r3 B0 B1 B2 B3 b0 b1 b2 b3 W') → Q0 .normal ⟨List.toArray (x0 :: x1 :: x2 :: x3 :: x4 :: x5 :: y6 :: x7 :: x8 :: x9 :: x10 :: .slice (some ⟨Rb, 0, none⟩) 4 4 :: .slice (some ⟨Lb, 0, none⟩) 4 4 :: .slice (some ⟨G, 0, none⟩) 4 cap :: x14 :: x15 :: x16 :: x17 :: y18 :: x19 :: x20 :: x21 :: x22 :: x23 :: x24 :: x25 :: x26 :: x27 :: x28 :: x29 :: x30 :: x31 :: x32 :: x33 :: x34 :: x35 :: x36 :: x37 :: x38 :: x39 :: x40 :: x41 :: x42 :: x43 :: x44 :: x45 :: x46 :: x47 :: x48 :: x49 :: x50 :: x51 :: x52 :: x53 :: x54 :: x55 :: x56 :: x57 :: x58 :: x59 :: x60 :: x61 :: x62 :: x63 :: x64 :: x65 :: x66 :: x67 :: x68 :: x69 :: x70 :: x71 :: x72 :: x73 :: x74 :: x75 :: x76 :: x77 :: x78 :: x79 :: x80 :: x81 :: x82 :: x83 :: x84 :: x85 :: x86 :: x87 :: x88 :: x89 :: x90 :: x91 :: x92 :: x93 :: x94 :: x95 :: x96 :: x97 :: x98 :: x99 :: x100 :: x101 :: x102 :: x103 :: x104 :: x105 :: x106 :: x107 :: x108 :: x109 :: x110 :: x111 :: x112 :: x113 :: x114 :: x115 :: x116 :: x117 :: x118 :: x119 :: x120 :: x121 :: x122 :: x123 :: x124 :: x125 :: x126 :: x127 :: x128 :: x129 :: x130 :: x131 :: x132 :: x133 :: x134 :: x135 :: x136 :: x137 :: x138 :: x139 :: x140 :: x141 :: x142 :: x143 :: x144 :: x145 :: x146 :: x147 :: x148 :: x149 :: x150 :: x151 :: x152 :: x153 :: x154 :: x155 :: x156 :: x157 :: x158 :: x159 :: x160 :: x161 :: x162 :: x163 :: x164 :: x165 :: x166 :: x167 :: y168 :: y169 :: y170 :: y171 :: y172 :: y173 :: y174 :: y175 :: y176 :: y177 :: y178 :: y179 :: y180 :: y181 :: y182 :: y183 :: y184 :: y185 :: y186 :: y187 :: y188 :: y189 :: y190 :: y191 :: y192 :: y193 :: x194 :: x195 :: x196 :: x197 :: x198 :: x199 :: x200 :: x201 :: x202 :: x203 :: x204 :: x205 :: x206 :: x207 :: x208 :: x209 :: x210 :: x211 :: x212 :: x213 :: x214 :: x215 :: x216 :: x217 :: x218 :: x219 :: x220 :: x221 :: x222 :: x223 :: x224 :: x225 :: x226 :: x227 :: x228 :: x229 :: x230 :: x231 :: x232 :: x233 :: x234 :: x235 :: x236 :: x237 :: x238 :: x239 :: x240 :: x241 :: x242 :: x243 :: x244 :: x245 :: x246 :: x247 :: x248 :: x249 :: x250 :: x251 :: x252 :: x253 :: x254 :: x255 :: x256 :: x257 :: x258 :: x259 :: x260 :: x261 :: x262 :: x263 :: x264 :: x265 :: x266 :: x267 :: []), []⟩ W')
    : Code.wp Try.prog leastChk Q0 ⟨List.toArray (x0 :: x1 :: x2 :: x3 :: x4 :: x5 :: x6 :: x7 :: x8 :: x9 :: x10 :: .slice (some ⟨Rb, 0, none⟩) 4 4 :: .slice (some ⟨Lb, 0, none⟩) 4 4 :: .slice (some ⟨G, 0, none⟩) 4 cap :: x14 :: x15 :: x16 :: x17 :: x18 :: x19 :: x20 :: x21 :: x22 :: x23 :: x24 :: x25 :: x26 :: x27 :: x28 :: x29 :: x30 :: x31 :: x32 :: x33 :: x34 :: x35 :: x36 :: x37 :: x38 :: x39 :: x40 :: x41 :: x42 :: x43 :: x44 :: x45 :: x46 :: x47 :: x48 :: x49 :: x50 :: x51 :: x52 :: x53 :: x54 :: x55 :: x56 :: x57 :: x58 :: x59 :: x60 :: x61 :: x62 :: x63 :: x64 :: x65 :: x66 :: x67 :: x68 :: x69 :: x70 :: x71 :: x72 :: x73 :: x74 :: x75 :: x76 :: x77 :: x78 :: x79 :: x80 :: x81 :: x82 :: x83 :: x84 :: x85 :: x86 :: x87 :: x88 :: x89 :: x90 :: x91 :: x92 :: x93 :: x94 :: x95 :: x96 :: x97 :: x98 :: x99 :: x100 :: x101 :: x102 :: x103 :: x104 :: x105 :: x106 :: x107 :: x108 :: x109 :: x110 :: x111 :: x112 :: x113 :: x114 :: x115 :: x116 :: x117 :: x118 :: x119 :: x120 :: x121 :: x122 :: x123 :: x124 :: x125 :: x126 :: x127 :: x128 :: x129 :: x130 :: x131 :: x132 :: x133 :: x134 :: x135 :: x136 :: x137 :: x138 :: x139 :: x140 :: x141 :: x142 :: x143 :: x144 :: x145 :: x146 :: x147 :: x148 :: x149 :: x150 :: x151 :: x152 :: x153 :: x154 :: x155 :: x156 :: x157 :: x158 :: x159 :: x160 :: x161 :: x162 :: x163 :: x164 :: x165 :: x166 :: x167 :: x168 :: x169 :: x170 :: x171 :: x172 :: x173 :: x174 :: x175 :: x176 :: x177 :: x178 :: x179 :: x180 :: x181 :: x182 :: x183 :: x184 :: x185 :: x186 :: x187 :: x188 :: x189 :: x190 :: x191 :: x192 :: x193 :: x194 :: x195 :: x196 :: x197 :: x198 :: x199 :: x200 :: x201 :: x202 :: x203 :: x204 :: x205 :: x206 :: x207 :: x208 :: x209 :: x210 :: x211 :: x212 :: x213 :: x214 :: x215 :: x216 :: x217 :: x218 :: x219 :: x220 :: x221 :: x222 :: x223 :: x224 :: x225 :: x226 :: x227 :: x228 :: x229 :: x230 :: x231 :: x232 :: x233 :: x234 :: x235 :: x236 :: x237 :: x238 :: x239 :: x240 :: x241 :: x242 :: x243 :: x244 :: x245 :: x246 :: x247 :: x248 :: x249 :: x250 :: x251 :: x252 :: x253 :: x254 :: x255 :: x256 :: x257 :: x258 :: x259 :: x260 :: x261 :: x262 :: x263 :: x264 :: x265 :: x266 :: x267 :: []), []⟩ W := by
  conv => arg 2; whnf
  have HQ := Lib.hid hQ; clear hQ
  have HC := Lib.hid H0; clear H0
  go_wp2_with fail
  go_loopw [18] (fun k wr => ∃ j : Nat, j ≤ 4 ∧ k = .int .i64 j ∧ Hid (LeC w A D Rb Lb G s t r0 r1 r2 r3 B0 B1 B2 B3 b0 b1 b2 b3 wr)) (fun k _ => 4 - (intOf k).toNat)
  case atStart => exact ⟨0, by omega, rfl, HC⟩
  case round =>
    clear HC W
    obtain ⟨j, hj, rfl, HC⟩ := hrel
    have hj2 : j = 0 ∨ j = 1 ∨ j = 2 ∨ j = 3 ∨ j = 4 := by omega
    clear hj
    rcases hj2 with rfl | rfl | rfl | rfl | rfl
    · obtain ⟨kv, kB, ke⟩ := K0
      have v1 := kv.lo; have v2 := kv.hi; have v3 := kv.stle; have v4 := kv.le; have v5 := kv.st0
      have u1 := kB.lo; have u2 := kB.hi; have u3 := kB.stle; have u4 := kB.le; have u5 := kB.st0
      have UP := Lib.hid kB.pos
      have hvb := (vldB_iff _).2 kv
      have KE := Lib.hid ke; clear ke kv kB
      go_wp2_with fail
      refine Mild.region_mild 21 [] (LeC w A D Rb Lb G s t r0 r1 r2 r3 B0 B1 B2 B3 b0 b1 b2 b3) (by kernel_rfl) 268 (by kernel_rfl) rfl (by simp) LeC.step HC.out (by simp) ?H29a
      apply Exists.intro
      refine ⟨?HW29a, ?HT29a⟩
      case HW29a =>
        intro W hW
        have g0 := hW.fr.a0; have g1 := hW.fr.a1; have g2 := hW.fr.a2
        have p0 := hW.fg.a0; have p1 := hW.fg.a1; have p2 := hW.fg.a2
        have cL : W.cell? ⟨Lb, 0, none⟩ = some (.bool b0) := (Mild.cell_of_block hW.fl _).trans rfl
        clear hW
        simp only [List.take_succ_cons, List.take_zero]
        repeat (apply Mild.walkM_q rfl; (go_wp2_with (first | (go_at_call 19; (with_reducible refine (rvalid_any r0 _).mono ?_); rw [hvb]; rintro e w1 ⟨rfl, hb⟩) | (go_at_call 20; (with_reducible refine (inside_any r0 B0 _ u5 UP.out (by omega) (by omega) (by omega) (by omega) (by omega) v5 (by omega)).mono ?_); rw [KE.out]; rintro e w1 ⟨rfl, hb⟩))); (first | refine ⟨rfl, rfl, Below.refl _ _, ?_⟩ | refine ⟨rfl, rfl, hb, ?_⟩))
        exact Mild.walkM_end rfl
      case HT29a =>
        intro F w9 hC u1 u2
        clear u1 u2
        simp only [List.drop_succ_cons, List.drop_zero, Mild.putAll, List.foldl_cons, List.foldl_nil, Mild.ptrTo, Act.put, List.setIfInBounds_toArray, List.set_cons_zero, List.set_cons_succ]
        clear F HC
        have HC := Lib.hid hC
        clear hC
        go_wp2_with fail
        go_roundw
        case rel => exact ⟨1, by omega, rfl, HC⟩
        case measure => simp [intOf]
    · obtain ⟨kv, kB, ke⟩ := K1
      have v1 := kv.lo; have v2 := kv.hi; have v3 := kv.stle; have v4 := kv.le; have v5 := kv.st0
      have u1 := kB.lo; have u2 := kB.hi; have u3 := kB.stle; have u4 := kB.le; have u5 := kB.st0
      have UP := Lib.hid kB.pos
      have hvb := (vldB_iff _).2 kv
      have KE := Lib.hid ke; clear ke kv kB
      go_wp2_with fail
      refine Mild.region_mild 21 [] (LeC w A D Rb Lb G s t r0 r1 r2 r3 B0 B1 B2 B3 b0 b1 b2 b3) (by kernel_rfl) 268 (by kernel_rfl) rfl (by simp) LeC.step HC.out (by simp) ?H29b
      apply Exists.intro
      refine ⟨?HW29b, ?HT29b⟩
      case HW29b =>
        intro W hW
        have g0 := hW.fr.b0; have g1 := hW.fr.b1; have g2 := hW.fr.b2
        have p0 := hW.fg.b0; have p1 := hW.fg.b1; have p2 := hW.fg.b2
        have cL : W.cell? ⟨Lb, 1, none⟩ = some (.bool b1) := (Mild.cell_of_block hW.fl _).trans rfl
        clear hW
        simp only [List.take_succ_cons, List.take_zero]
        repeat (apply Mild.walkM_q rfl; (go_wp2_with (first | (go_at_call 19; (with_reducible refine (rvalid_any r1 _).mono ?_); rw [hvb]; rintro e w1 ⟨rfl, hb⟩) | (go_at_call 20; (with_reducible refine (inside_any r1 B1 _ u5 UP.out (by omega) (by omega) (by omega) (by omega) (by omega) v5 (by omega)).mono ?_); rw [KE.out]; rintro e w1 ⟨rfl, hb⟩))); (first | refine ⟨rfl, rfl, Below.refl _ _, ?_⟩ | refine ⟨rfl, rfl, hb, ?_⟩))
        exact Mild.walkM_end rfl
      case HT29b =>
        intro F w9 hC u1 u2
        clear u1 u2
        simp only [List.drop_succ_cons, List.drop_zero, Mild.putAll, List.foldl_cons, List.foldl_nil, Mild.ptrTo, Act.put, List.setIfInBounds_toArray, List.set_cons_zero, List.set_cons_succ]
        clear F HC
        have HC := Lib.hid hC
        clear hC
        go_wp2_with fail
        go_roundw
        case rel => exact ⟨2, by omega, rfl, HC⟩
        case measure => simp [intOf]
    · obtain ⟨kv, kB, ke⟩ := K2
      have v1 := kv.lo; have v2 := kv.hi; have v3 := kv.stle; have v4 := kv.le; have v5 := kv.st0
      have u1 := kB.lo; have u2 := kB.hi; have u3 := kB.stle; have u4 := kB.le; have u5 := kB.st0
      have UP := Lib.hid kB.pos
      have hvb := (vldB_iff _).2 kv
      have KE := Lib.hid ke; clear ke kv kB
      go_wp2_with fail
      refine Mild.region_mild 21 [] (LeC w A D Rb Lb G s t r0 r1 r2 r3 B0 B1 B2 B3 b0 b1 b2 b3) (by kernel_rfl) 268 (by kernel_rfl) rfl (by simp) LeC.step HC.out (by simp) ?H29c
      apply Exists.intro
      refine ⟨?HW29c, ?HT29c⟩
      case HW29c =>
        intro W hW
        have g0 := hW.fr.c0; have g1 := hW.fr.c1; have g2 := hW.fr.c2
        have p0 := hW.fg.c0; have p1 := hW.fg.c1; have p2 := hW.fg.c2
        have cL : W.cell? ⟨Lb, 2, none⟩ = some (.bool b2) := (Mild.cell_of_block hW.fl _).trans rfl
        clear hW
        simp only [List.take_succ_cons, List.take_zero]
        repeat (apply Mild.walkM_q rfl; (go_wp2_with (first | (go_at_call 19; (with_reducible refine (rvalid_any r2 _).mono ?_); rw [hvb]; rintro e w1 ⟨rfl, hb⟩) | (go_at_call 20; (with_reducible refine (inside_any r2 B2 _ u5 UP.out (by omega) (by omega) (by omega) (by omega) (by omega) v5 (by omega)).mono ?_); rw [KE.out]; rintro e w1 ⟨rfl, hb⟩))); (first | refine ⟨rfl, rfl, Below.refl _ _, ?_⟩ | refine ⟨rfl, rfl, hb, ?_⟩))
        exact Mild.walkM_end rfl
      case HT29c =>
        intro F w9 hC u1 u2
        clear u1 u2
        simp only [List.drop_succ_cons, List.drop_zero, Mild.putAll, List.foldl_cons, List.foldl_nil, Mild.ptrTo, Act.put, List.setIfInBounds_toArray, List.set_cons_zero, List.set_cons_succ]
        clear F HC
        have HC := Lib.hid hC
        clear hC
        go_wp2_with fail
        go_roundw
        case rel => exact ⟨3, by omega, rfl, HC⟩
        case measure => simp [intOf]
    · obtain ⟨kv, kB, ke⟩ := K3
      have v1 := kv.lo; have v2 := kv.hi; have v3 := kv.stle; have v4 := kv.le; have v5 := kv.st0
      have u1 := kB.lo; have u2 := kB.hi; have u3 := kB.stle; have u4 := kB.le; have u5 := kB.st0
      have UP := Lib.hid kB.pos
      have hvb := (vldB_iff _).2 kv
      have KE := Lib.hid ke; clear ke kv kB
      go_wp2_with fail
      refine Mild.region_mild 21 [] (LeC w A D Rb Lb G s t r0 r1 r2 r3 B0 B1 B2 B3 b0 b1 b2 b3) (by kernel_rfl) 268 (by kernel_rfl) rfl (by simp) LeC.step HC.out (by simp) ?H29d
      apply Exists.intro
      refine ⟨?HW29d, ?HT29d⟩
      case HW29d =>
        intro W hW
        have g0 := hW.fr.d0; have g1 := hW.fr.d1; have g2 := hW.fr.d2
        have p0 := hW.fg.d0; have p1 := hW.fg.d1; have p2 := hW.fg.d2
        have cL : W.cell? ⟨Lb, 3, none⟩ = some (.bool b3) := (Mild.cell_of_block hW.fl _).trans rfl
        clear hW
        simp only [List.take_succ_cons, List.take_zero]
        repeat (apply Mild.walkM_q rfl; (go_wp2_with (first | (go_at_call 19; (with_reducible refine (rvalid_any r3 _).mono ?_); rw [hvb]; rintro e w1 ⟨rfl, hb⟩) | (go_at_call 20; (with_reducible refine (inside_any r3 B3 _ u5 UP.out (by omega) (by omega) (by omega) (by omega) (by omega) v5 (by omega)).mono ?_); rw [KE.out]; rintro e w1 ⟨rfl, hb⟩))); (first | refine ⟨rfl, rfl, Below.refl _ _, ?_⟩ | refine ⟨rfl, rfl, hb, ?_⟩))
        exact Mild.walkM_end rfl
      case HT29d =>
        intro F w9 hC u1 u2
        clear u1 u2
        simp only [List.drop_succ_cons, List.drop_zero, Mild.putAll, List.foldl_cons, List.foldl_nil, Mild.ptrTo, Act.put, List.setIfInBounds_toArray, List.set_cons_zero, List.set_cons_succ]
        clear F HC
        have HC := Lib.hid hC
        clear hC
        go_wp2_with fail
        go_roundw
        case rel => exact ⟨4, by omega, rfl, HC⟩
        case measure => simp [intOf]
    · go_wp2_with fail
      apply HQ.out
      exact HC
end Go.Proofs.Ytnihhchgnkfcgaa

