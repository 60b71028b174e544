/- SpanLeast: the two loops over the elements, as a text of its own. -/
import Derived.Test.YtnihhchgnkfcgaaWs
-- USEBDN
set_option linter.unusedSimpArgs false
set_option linter.unusedVariables false
namespace Go.Proofs.Ytnihhchgnkfcgaa
open Go.ChangeShapes Go.WideShapes Go.ChangeAt Go.RowKit
theorem small_prod {x y : Int} (h1 : -40 ≤ x) (h2 : x ≤ 166) (h3 : -40 ≤ y) (h4 : y ≤ 166) : -1000000 ≤ x * y ∧ x * y ≤ 1000000 := by
  have h5 := Int.natAbs_mul x y
  have h6 : x.natAbs * y.natAbs ≤ 166 * 166 := Nat.mul_le_mul (by omega) (by omega)
  omega
/-- The four answers behind i elements of the inner loop. -/
def in0 (t B : Sp) (a : Int) (i : Nat) : Bool := allTo t (fun b => hasB B (a + b)) i
def in1 (t B : Sp) (a : Int) (i : Nat) : Bool := allTo t (fun b => hasB B (a - b)) i
def in2 (t B : Sp) (a : Int) (i : Nat) : Bool := allTo t (fun b => hasB B (a * b)) i
def in3 (t B : Sp) (i : Nat) : Bool := allTo t (hasB B) i
theorem in0_succ (t B : Sp) (a : Int) (i : Nat) : in0 t B a (i + 1) = (in0 t B a i && hasB B (a + elM t i)) := allTo_succ _ _ _
theorem in1_succ (t B : Sp) (a : Int) (i : Nat) : in1 t B a (i + 1) = (in1 t B a i && hasB B (a - elM t i)) := allTo_succ _ _ _
theorem in2_succ (t B : Sp) (a : Int) (i : Nat) : in2 t B a (i + 1) = (in2 t B a i && hasB B (a * elM t i)) := allTo_succ _ _ _
theorem in3_succ (t B : Sp) (i : Nat) : in3 t B (i + 1) = (in3 t B i && hasB B (elM t i)) := allTo_succ _ _ _
theorem in_zero (t B : Sp) (a : Int) : in0 t B a 0 = true ∧ in1 t B a 0 = true ∧ in2 t B a 0 = true ∧ in3 t B 0 = true := ⟨rfl, rfl, rfl, rfl⟩
/-- .. and behind j elements of the outer one. -/
def out0 (s t B : Sp) (j : Nat) : Bool := allTo s (fun a => in0 t B a (cntE t)) j
def out1 (s t B : Sp) (j : Nat) : Bool := allTo s (fun a => in1 t B a (cntE t)) j
def out2 (s t B : Sp) (j : Nat) : Bool := allTo s (fun a => in2 t B a (cntE t)) j
theorem out0_succ (s t B : Sp) (j : Nat) : out0 s t B (j + 1) = (out0 s t B j && in0 t B (elM s j) (cntE t)) := allTo_succ _ _ _
theorem out1_succ (s t B : Sp) (j : Nat) : out1 s t B (j + 1) = (out1 s t B j && in1 t B (elM s j) (cntE t)) := allTo_succ _ _ _
theorem out2_succ (s t B : Sp) (j : Nat) : out2 s t B (j + 1) = (out2 s t B j && in2 t B (elM s j) (cntE t)) := allTo_succ _ _ _
theorem allJ_succ (s t B : Sp) (j : Nat) : allJ s t B (j + 1) = (allJ s t B j && (hasB B (elM s j) && in3 t B (cntE t))) := allTo_succ _ _ _
theorem out_zero (s t B : Sp) : out0 s t B 0 = true ∧ out1 s t B 0 = true ∧ out2 s t B 0 = true ∧ allJ s t B 0 = true := ⟨rfl, rfl, rfl, rfl⟩
theorem el_bd {t : Sp} (ht : Vld t) (i : Nat) : t.lo ≤ elM t i := by
  have := elM_mono t (Nat.zero_le i)
  unfold elM at this ⊢
  simp at this
  omega
noncomputable def leastIn : Code := navC [1, 1, 1, 1, 1, 1, 1, 1, 1, 0, 1, 1, 1, 1, 0, 1, 1] (Try.f9.body.getD .skip)
set_option maxRecDepth 100000 in
set_option maxHeartbeats 8000000 in
theorem least_in_any (w : World) (A D Rb Lb G : Nat) (s t r0 r1 r2 r3 B0 B1 B2 B3 : Sp) (b0 b1 b2 b3 : Bool) (a : Int) (cap : Nat) (x0 x1 x2 x3 x4 x5 x6 x7 x10 x11 x14 x15 x17 x18 x19 x20 x21 x22 x23 x24 x25 x26 x27 x28 x29 x30 x31 x32 x33 x34 x35 x36 x37 x38 x39 x40 x41 x42 x43 x44 x45 x46 x47 x48 x49 x50 x51 x52 x53 x54 x55 x56 x57 x58 x59 x60 x61 x62 x63 x64 x65 x66 x67 x68 x69 x70 x71 x72 x73 x74 x75 x76 x77 x78 x79 x80 x81 x82 x83 x84 x85 x86 x87 x88 x89 x90 x91 x92 x93 x94 x95 x96 x97 x98 x99 x100 x101 x102 x103 x104 x105 x106 x107 x108 x109 x110 x111 x112 x113 x114 x115 x116 x117 x118 x119 x120 x121 x122 x123 x124 x125 x126 x127 x128 x129 x130 x131 x132 x133 x134 x135 x136 x137 x138 x139 x140 x141 x142 x143 x144 x145 x146 x147 x148 x149 x150 x151 x152 x153 x154 x155 x156 x157 x158 x159 x160 x161 x162 x163 x164 x165 x166 x167 x168 x169 x170 x171 x172 x173 x174 x175 x176 x177 x178 x179 x180 x181 x182 x183 x184 x185 x186 x187 x188 x189 x190 x191 x192 x193 x194 x195 x196 x197 x198 x199 x200 x201 x202 x203 x204 x205 x206 x207 x208 x209 x210 x211 x212 x213 x214 x215 x216 x217 x218 x219 x220 x221 x222 x223 x224 x225 x226 x227 x228 x229 x230 x231 x232 x233 x234 x235 x236 x237 x238 x239 x240 x241 x242 x243 x244 x245 x246 x247 x248 x249 x250 x251 x252 x253 x254 x255 x256 x257 x258 x259 x260 x261 x262 x263 x264 x265 x266 x267 : Value) (n : LeN w A D Rb Lb G) (ht : Vld t) (v0 : Vld B0) (v1 : Vld B1) (v2 : Vld B2) (v3 : Vld B3) (t1 : -40 ≤ t.lo) (t2 : t.hi ≤ 166) (a1 : -40 ≤ a) (a2 : a ≤ 166) (W : World) (H0 : LeC w A D Rb Lb G s t r0 r1 r2 r3 B0 B1 B2 B3 b0 b1 b2 b3 W) (Q0 : Exit → Act → World → Prop)
    (hQ : ∀ (y17 y103 y104 y105 y106 y107 y108 y109 y110 y111 y112 y113 y114 y115 y116 y117 y118 y119 y120 y121 y122 y123 y124 y125 y126 y127 y128 y129 y130 y131 y132 y133 y134 y135 y136 y137 y138 y139 y140 y141 y142 y143 y144 y145 y146 y147 y148 y149 y150 y151 y152 y153 y154 y155 y156 y157 y158 y159 y160 y161 y162 y163 y164 y165 y166 y167 : Value) (W' : World), Hid (LeC w A D Rb Lb G s t r0 r1 r2 r3 B0 B1 B2 B3 (b0 && in0 t B0 a (cntE t)) (b1 && in1 t B1 a (cntE t)) (b2 && in2 t B2 a (cntE t)) (b3 && in3 t B3 (cntE t)) W') → Q0 .normal ⟨List.toArray (x0 :: x1 :: x2 :: x3 :: x4 :: x5 :: x6 :: x7 :: .pointer (some ⟨A, 0, none⟩) :: .pointer (some ⟨D, 0, none⟩) :: x10 :: x11 :: .slice (some ⟨Lb, 0, none⟩) 4 4 :: .slice (some ⟨G, 0, none⟩) 4 cap :: x14 :: x15 :: .int .i64 a :: y17 :: x18 :: x19 :: x20 :: x21 :: x22 :: x23 :: x24 :: x25 :: x26 :: x27 :: x28 :: x29 :: x30 :: x31 :: x32 :: x33 :: x34 :: x35 :: x36 :: x37 :: x38 :: x39 :: x40 :: x41 :: x42 :: x43 :: x44 :: x45 :: x46 :: x47 :: x48 :: x49 :: x50 :: x51 :: x52 :: x53 :: x54 :: x55 :: x56 :: x57 :: x58 :: x59 :: x60 :: x61 :: x62 :: x63 :: x64 :: x65 :: x66 :: x67 :: x68 :: x69 :: x70 :: x71 :: x72 :: x73 :: x74 :: x75 :: x76 :: x77 :: x78 :: x79 :: x80 :: x81 :: x82 :: x83 :: x84 :: x85 :: x86 :: x87 :: x88 :: x89 :: x90 :: x91 :: x92 :: x93 :: x94 :: x95 :: x96 :: x97 :: x98 :: x99 :: x100 :: x101 :: x102 :: y103 :: y104 :: y105 :: y106 :: y107 :: y108 :: y109 :: y110 :: y111 :: y112 :: y113 :: y114 :: y115 :: y116 :: y117 :: y118 :: y119 :: y120 :: y121 :: y122 :: y123 :: y124 :: y125 :: y126 :: y127 :: y128 :: y129 :: y130 :: y131 :: y132 :: y133 :: y134 :: y135 :: y136 :: y137 :: y138 :: y139 :: y140 :: y141 :: y142 :: y143 :: y144 :: y145 :: y146 :: y147 :: y148 :: y149 :: y150 :: y151 :: y152 :: y153 :: y154 :: y155 :: y156 :: y157 :: y158 :: y159 :: y160 :: y161 :: y162 :: y163 :: y164 :: y165 :: y166 :: y167 :: x168 :: x169 :: x170 :: x171 :: x172 :: x173 :: x174 :: x175 :: x176 :: x177 :: x178 :: x179 :: x180 :: x181 :: x182 :: x183 :: x184 :: x185 :: x186 :: x187 :: x188 :: x189 :: x190 :: x191 :: x192 :: x193 :: x194 :: x195 :: x196 :: x197 :: x198 :: x199 :: x200 :: x201 :: x202 :: x203 :: x204 :: x205 :: x206 :: x207 :: x208 :: x209 :: x210 :: x211 :: x212 :: x213 :: x214 :: x215 :: x216 :: x217 :: x218 :: x219 :: x220 :: x221 :: x222 :: x223 :: x224 :: x225 :: x226 :: x227 :: x228 :: x229 :: x230 :: x231 :: x232 :: x233 :: x234 :: x235 :: x236 :: x237 :: x238 :: x239 :: x240 :: x241 :: x242 :: x243 :: x244 :: x245 :: x246 :: x247 :: x248 :: x249 :: x250 :: x251 :: x252 :: x253 :: x254 :: x255 :: x256 :: x257 :: x258 :: x259 :: x260 :: x261 :: x262 :: x263 :: x264 :: x265 :: x266 :: x267 :: []), []⟩ W')
    : Code.wp Try.prog leastIn Q0 ⟨List.toArray (x0 :: x1 :: x2 :: x3 :: x4 :: x5 :: x6 :: x7 :: .pointer (some ⟨A, 0, none⟩) :: .pointer (some ⟨D, 0, none⟩) :: x10 :: x11 :: .slice (some ⟨Lb, 0, none⟩) 4 4 :: .slice (some ⟨G, 0, none⟩) 4 cap :: x14 :: x15 :: .int .i64 a :: x17 :: x18 :: x19 :: x20 :: x21 :: x22 :: x23 :: x24 :: x25 :: x26 :: x27 :: x28 :: x29 :: x30 :: x31 :: x32 :: x33 :: x34 :: x35 :: x36 :: x37 :: x38 :: x39 :: x40 :: x41 :: x42 :: x43 :: x44 :: x45 :: x46 :: x47 :: x48 :: x49 :: x50 :: x51 :: x52 :: x53 :: x54 :: x55 :: x56 :: x57 :: x58 :: x59 :: x60 :: x61 :: x62 :: x63 :: x64 :: x65 :: x66 :: x67 :: x68 :: x69 :: x70 :: x71 :: x72 :: x73 :: x74 :: x75 :: x76 :: x77 :: x78 :: x79 :: x80 :: x81 :: x82 :: x83 :: x84 :: x85 :: x86 :: x87 :: x88 :: x89 :: x90 :: x91 :: x92 :: x93 :: x94 :: x95 :: x96 :: x97 :: x98 :: x99 :: x100 :: x101 :: x102 :: x103 :: x104 :: x105 :: x106 :: x107 :: x108 :: x109 :: x110 :: x111 :: x112 :: x113 :: x114 :: x115 :: x116 :: x117 :: x118 :: x119 :: x120 :: x121 :: x122 :: x123 :: x124 :: x125 :: x126 :: x127 :: x128 :: x129 :: x130 :: x131 :: x132 :: x133 :: x134 :: x135 :: x136 :: x137 :: x138 :: x139 :: x140 :: x141 :: x142 :: x143 :: x144 :: x145 :: x146 :: x147 :: x148 :: x149 :: x150 :: x151 :: x152 :: x153 :: x154 :: x155 :: x156 :: x157 :: x158 :: x159 :: x160 :: x161 :: x162 :: x163 :: x164 :: x165 :: x166 :: x167 :: x168 :: x169 :: x170 :: x171 :: x172 :: x173 :: x174 :: x175 :: x176 :: x177 :: x178 :: x179 :: x180 :: x181 :: x182 :: x183 :: x184 :: x185 :: x186 :: x187 :: x188 :: x189 :: x190 :: x191 :: x192 :: x193 :: x194 :: x195 :: x196 :: x197 :: x198 :: x199 :: x200 :: x201 :: x202 :: x203 :: x204 :: x205 :: x206 :: x207 :: x208 :: x209 :: x210 :: x211 :: x212 :: x213 :: x214 :: x215 :: x216 :: x217 :: x218 :: x219 :: x220 :: x221 :: x222 :: x223 :: x224 :: x225 :: x226 :: x227 :: x228 :: x229 :: x230 :: x231 :: x232 :: x233 :: x234 :: x235 :: x236 :: x237 :: x238 :: x239 :: x240 :: x241 :: x242 :: x243 :: x244 :: x245 :: x246 :: x247 :: x248 :: x249 :: x250 :: x251 :: x252 :: x253 :: x254 :: x255 :: x256 :: x257 :: x258 :: x259 :: x260 :: x261 :: x262 :: x263 :: x264 :: x265 :: x266 :: x267 :: []), []⟩ W := by
  conv => arg 2; whnf
  have HQ := Lib.hid hQ; clear hQ
  have HN := Lib.hid n; clear n
  have HC : Hid (LeC w A D Rb Lb G s t r0 r1 r2 r3 B0 B1 B2 B3 (b0 && in0 t B0 a 0) (b1 && in1 t B1 a 0) (b2 && in2 t B2 a 0) (b3 && in3 t B3 0) W) := Lib.hid (by
    obtain ⟨z0, _, _, _⟩ := in_zero t B0 a
    obtain ⟨_, z1, _, _⟩ := in_zero t B1 a
    obtain ⟨_, _, z2, _⟩ := in_zero t B2 a
    obtain ⟨_, _, _, z3⟩ := in_zero t B3 a
    rw [z0, z1, z2, z3, Bool.and_true, Bool.and_true, Bool.and_true, Bool.and_true]
    exact H0)
  clear H0
  have ts := ht.st0
  have tz : t.st ≤ 206 := by have := ht.stle; omega
  have tl := ht.le
  obtain ⟨g0, g1, g2⟩ := HC.out.fd
  go_wp2_with fail
  clear g0 g1 g2
  go_loopw [17] (fun b wr => ∃ i : Nat, i ≤ cntE t ∧ b = .int .i64 (elM t i) ∧ Hid (LeC w A D Rb Lb G s t r0 r1 r2 r3 B0 B1 B2 B3 (b0 && in0 t B0 a i) (b1 && in1 t B1 a i) (b2 && in2 t B2 a i) (b3 && in3 t B3 i) wr)) (fun b _ => (t.hi + 1 - intOf b).toNat)
  case atStart => exact ⟨0, by omega, congrArg (Value.int .i64) (by unfold elM; simp), HC⟩
  case round =>
    clear HC W
    obtain ⟨i, hi, rfl, HC⟩ := hrel
    have hcnt := elM_lt ht i
    have hb1 := el_bd ht i
    have hsu := elM_succ t i
    obtain ⟨b, hb⟩ : ∃ b, b = elM t i := ⟨_, rfl⟩
    rw [← hb] at hcnt hb1 hsu
    rw [← hb]
    have HB := Lib.hid hb; clear hb
    have HS := Lib.hid hsu; clear hsu
    obtain ⟨g0, g1, g2⟩ := HC.out.fd
    by_cases hlt : b ≤ t.hi
    · have hlt2 := hcnt.1 hlt
      clear hcnt
      obtain ⟨m1, m2⟩ := small_prod a1 a2 (show -40 ≤ b by omega) (show b ≤ 166 by omega)
      go_upto_region 22 with fail
      clear g0 g1 g2
      refine least22_any w A D Rb Lb G s t r0 r1 r2 r3 B0 B1 B2 B3 (b0 && in0 t B0 a i) (b1 && in1 t B1 a i) (b2 && in2 t B2 a i) (b3 && in3 t B3 i) a b cap _ _ _ _ _ _ _ _ _ _ _ _ _ _ _ _ _ _ _ _ _ _ _ _ _ _ _ _ _ _ _ _ _ _ _ _ _ _ _ _ _ _ _ _ _ _ _ _ _ _ _ _ _ _ _ _ _ _ _ _ _ _ _ _ _ _ _ _ _ _ _ _ _ _ _ _ _ _ _ _ _ _ _ _ _ _ _ _ _ _ _ _ _ _ _ _ _ _ _ _ _ _ _ _ _ _ _ _ _ _ _ _ _ _ _ _ _ _ _ _ _ _ _ _ _ _ _ _ _ _ _ _ _ _ _ _ _ _ _ _ _ _ _ _ _ _ _ _ _ _ _ _ _ _ _ _ _ _ _ _ _ _ _ _ _ _ _ _ _ _ _ _ _ _ _ _ _ _ _ _ _ _ _ _ _ _ _ _ _ _ _ _ _ _ _ _ _ _ _ _ _ _ _ _ _ _ _ _ _ _ _ _ _ _ _ _ _ _ _ _ _ _ _ _ _ _ _ _ _ _ _ _ _ _ _ _ _ _ _ _ _ _ _ _ _ _ _ _ _ _ _ _ _ _ _ _ _ _ _ _ _ _ _ _ HN.out v0 (by omega) (by omega) (by omega) (by omega) m1 m2 _ HC.out _ ?_
      clear HC
      intro y114 y115 y116 y117 y118 y119 y120 y121 y122 y123 y124 y125 y126 y127 W1 HC
      go_upto_region 23 with fail
      refine least23_any w A D Rb Lb G s t r0 r1 r2 r3 B0 B1 B2 B3 (b0 && in0 t B0 a i && hasB B0 (a + b)) (b1 && in1 t B1 a i) (b2 && in2 t B2 a i) (b3 && in3 t B3 i) a b cap _ _ _ _ _ _ _ _ _ _ _ _ _ _ _ _ _ _ _ _ _ _ _ _ _ _ _ _ _ _ _ _ _ _ _ _ _ _ _ _ _ _ _ _ _ _ _ _ _ _ _ _ _ _ _ _ _ _ _ _ _ _ _ _ _ _ _ _ _ _ _ _ _ _ _ _ _ _ _ _ _ _ _ _ _ _ _ _ _ _ _ _ _ _ _ _ _ _ _ _ _ _ _ _ _ _ _ _ _ _ _ _ _ _ _ _ _ _ _ _ _ _ _ _ _ _ _ _ _ _ _ _ _ _ _ _ _ _ _ _ _ _ _ _ _ _ _ _ _ _ _ _ _ _ _ _ _ _ _ _ _ _ _ _ _ _ _ _ _ _ _ _ _ _ _ _ _ _ _ _ _ _ _ _ _ _ _ _ _ _ _ _ _ _ _ _ _ _ _ _ _ _ _ _ _ _ _ _ _ _ _ _ _ _ _ _ _ _ _ _ _ _ _ _ _ _ _ _ _ _ _ _ _ _ _ _ _ _ _ _ _ _ _ _ _ _ _ _ _ _ _ _ _ _ _ _ _ _ _ _ _ _ _ _ HN.out v1 (by omega) (by omega) (by omega) (by omega) m1 m2 _ HC.out _ ?_
      clear HC W1
      intro y128 y129 y130 y131 y132 y133 y134 y135 y136 y137 y138 y139 y140 y141 W1 HC
      go_upto_region 24 with fail
      refine least24_any w A D Rb Lb G s t r0 r1 r2 r3 B0 B1 B2 B3 (b0 && in0 t B0 a i && hasB B0 (a + b)) (b1 && in1 t B1 a i && hasB B1 (a - b)) (b2 && in2 t B2 a i) (b3 && in3 t B3 i) a b cap _ _ _ _ _ _ _ _ _ _ _ _ _ _ _ _ _ _ _ _ _ _ _ _ _ _ _ _ _ _ _ _ _ _ _ _ _ _ _ _ _ _ _ _ _ _ _ _ _ _ _ _ _ _ _ _ _ _ _ _ _ _ _ _ _ _ _ _ _ _ _ _ _ _ _ _ _ _ _ _ _ _ _ _ _ _ _ _ _ _ _ _ _ _ _ _ _ _ _ _ _ _ _ _ _ _ _ _ _ _ _ _ _ _ _ _ _ _ _ _ _ _ _ _ _ _ _ _ _ _ _ _ _ _ _ _ _ _ _ _ _ _ _ _ _ _ _ _ _ _ _ _ _ _ _ _ _ _ _ _ _ _ _ _ _ _ _ _ _ _ _ _ _ _ _ _ _ _ _ _ _ _ _ _ _ _ _ _ _ _ _ _ _ _ _ _ _ _ _ _ _ _ _ _ _ _ _ _ _ _ _ _ _ _ _ _ _ _ _ _ _ _ _ _ _ _ _ _ _ _ _ _ _ _ _ _ _ _ _ _ _ _ _ _ _ _ _ _ _ _ _ _ _ _ _ _ _ _ _ _ _ _ _ _ HN.out v2 (by omega) (by omega) (by omega) (by omega) m1 m2 _ HC.out _ ?_
      clear HC W1
      intro y142 y143 y144 y145 y146 y147 y148 y149 y150 y151 y152 y153 y154 y155 W1 HC
      go_upto_region 25 with fail
      refine least25_any w A D Rb Lb G s t r0 r1 r2 r3 B0 B1 B2 B3 (b0 && in0 t B0 a i && hasB B0 (a + b)) (b1 && in1 t B1 a i && hasB B1 (a - b)) (b2 && in2 t B2 a i && hasB B2 (a * b)) (b3 && in3 t B3 i) a b cap _ _ _ _ _ _ _ _ _ _ _ _ _ _ _ _ _ _ _ _ _ _ _ _ _ _ _ _ _ _ _ _ _ _ _ _ _ _ _ _ _ _ _ _ _ _ _ _ _ _ _ _ _ _ _ _ _ _ _ _ _ _ _ _ _ _ _ _ _ _ _ _ _ _ _ _ _ _ _ _ _ _ _ _ _ _ _ _ _ _ _ _ _ _ _ _ _ _ _ _ _ _ _ _ _ _ _ _ _ _ _ _ _ _ _ _ _ _ _ _ _ _ _ _ _ _ _ _ _ _ _ _ _ _ _ _ _ _ _ _ _ _ _ _ _ _ _ _ _ _ _ _ _ _ _ _ _ _ _ _ _ _ _ _ _ _ _ _ _ _ _ _ _ _ _ _ _ _ _ _ _ _ _ _ _ _ _ _ _ _ _ _ _ _ _ _ _ _ _ _ _ _ _ _ _ _ _ _ _ _ _ _ _ _ _ _ _ _ _ _ _ _ _ _ _ _ _ _ _ _ _ _ _ _ _ _ _ _ _ _ _ _ _ _ _ _ _ _ _ _ _ _ _ _ _ _ _ _ _ _ _ _ _ _ HN.out v3 (by omega) (by omega) (by omega) (by omega) m1 m2 _ HC.out _ ?_
      clear HC W1
      intro y156 y157 y158 y159 y160 y161 y162 y163 y164 y165 y166 y167 W1 HC
      have HE : Hid (LeC w A D Rb Lb G s t r0 r1 r2 r3 B0 B1 B2 B3 (b0 && in0 t B0 a (i + 1)) (b1 && in1 t B1 a (i + 1)) (b2 && in2 t B2 a (i + 1)) (b3 && in3 t B3 (i + 1)) W1) := Lib.hid (by
        rw [in0_succ, in1_succ, in2_succ, in3_succ, ← Bool.and_assoc, ← Bool.and_assoc, ← Bool.and_assoc, ← Bool.and_assoc, ← HB.out]
        exact HC.out)
      clear HC
      obtain ⟨g0, g1, g2⟩ := HE.out.fd
      go_wp2_with fail
      go_roundw
      case rel => exact ⟨i + 1, by omega, congrArg (Value.int .i64) (by rw [HS.out]; congr 1; split <;> omega), HE⟩
      case measure => simp [intOf]; split <;> omega
    · have hie : i = cntE t := by
        have := fun h => hlt (hcnt.2 h)
        omega
      have HE : Hid (LeC w A D Rb Lb G s t r0 r1 r2 r3 B0 B1 B2 B3 (b0 && in0 t B0 a (cntE t)) (b1 && in1 t B1 a (cntE t)) (b2 && in2 t B2 a (cntE t)) (b3 && in3 t B3 (cntE t)) wr) := by rw [← hie]; exact HC
      clear HC hcnt hie
      go_wp2_with fail
      apply HQ.out
      exact HE
noncomputable def leastOut : Code := navC [1, 1, 1, 1, 1, 1, 1, 1, 1, 0] (Try.f9.body.getD .skip)
set_option maxRecDepth 100000 in
set_option maxHeartbeats 8000000 in
theorem least_out_any (w : World) (A D Rb Lb G : Nat) (s t r0 r1 r2 r3 B0 B1 B2 B3 : Sp) (cap : Nat) (x0 x1 x2 x3 x4 x5 x6 x7 x10 x11 x14 x15 x16 x17 x18 x19 x20 x21 x22 x23 x24 x25 x26 x27 x28 x29 x30 x31 x32 x33 x34 x35 x36 x37 x38 x39 x40 x41 x42 x43 x44 x45 x46 x47 x48 x49 x50 x51 x52 x53 x54 x55 x56 x57 x58 x59 x60 x61 x62 x63 x64 x65 x66 x67 x68 x69 x70 x71 x72 x73 x74 x75 x76 x77 x78 x79 x80 x81 x82 x83 x84 x85 x86 x87 x88 x89 x90 x91 x92 x93 x94 x95 x96 x97 x98 x99 x100 x101 x102 x103 x104 x105 x106 x107 x108 x109 x110 x111 x112 x113 x114 x115 x116 x117 x118 x119 x120 x121 x122 x123 x124 x125 x126 x127 x128 x129 x130 x131 x132 x133 x134 x135 x136 x137 x138 x139 x140 x141 x142 x143 x144 x145 x146 x147 x148 x149 x150 x151 x152 x153 x154 x155 x156 x157 x158 x159 x160 x161 x162 x163 x164 x165 x166 x167 x168 x169 x170 x171 x172 x173 x174 x175 x176 x177 x178 x179 x180 x181 x182 x183 x184 x185 x186 x187 x188 x189 x190 x191 x192 x193 x194 x195 x196 x197 x198 x199 x200 x201 x202 x203 x204 x205 x206 x207 x208 x209 x210 x211 x212 x213 x214 x215 x216 x217 x218 x219 x220 x221 x222 x223 x224 x225 x226 x227 x228 x229 x230 x231 x232 x233 x234 x235 x236 x237 x238 x239 x240 x241 x242 x243 x244 x245 x246 x247 x248 x249 x250 x251 x252 x253 x254 x255 x256 x257 x258 x259 x260 x261 x262 x263 x264 x265 x266 x267 : Value) (n : LeN w A D Rb Lb G) (hs : Vld s) (ht : Vld t) (v0 : Vld B0) (v1 : Vld B1) (v2 : Vld B2) (v3 : Vld B3) (s1 : -40 ≤ s.lo) (s2 : s.hi ≤ 166) (t1 : -40 ≤ t.lo) (t2 : t.hi ≤ 166) (W : World) (H0 : LeC w A D Rb Lb G s t r0 r1 r2 r3 B0 B1 B2 B3 true true true true W) (Q0 : Exit → Act → World → Prop)
    (hQ : ∀ (y16 y17 y80 y81 y82 y83 y84 y85 y86 y87 y88 y89 y90 y91 y92 y93 y94 y95 y96 y97 y98 y99 y100 y101 y102 y103 y104 y105 y106 y107 y108 y109 y110 y111 y112 y113 y114 y115 y116 y117 y118 y119 y120 y121 y122 y123 y124 y125 y126 y127 y128 y129 y130 y131 y132 y133 y134 y135 y136 y137 y138 y139 y140 y141 y142 y143 y144 y145 y146 y147 y148 y149 y150 y151 y152 y153 y154 y155 y156 y157 y158 y159 y160 y161 y162 y163 y164 y165 y166 y167 : Value) (W' : World), Hid (LeC w A D Rb Lb G s t r0 r1 r2 r3 B0 B1 B2 B3 (out0 s t B0 (cntE s)) (out1 s t B1 (cntE s)) (out2 s t B2 (cntE s)) (allJ s t B3 (cntE s)) W') → Q0 .normal ⟨List.toArray (x0 :: x1 :: x2 :: x3 :: x4 :: x5 :: x6 :: x7 :: .pointer (some ⟨A, 0, none⟩) :: .pointer (some ⟨D, 0, none⟩) :: x10 :: x11 :: .slice (some ⟨Lb, 0, none⟩) 4 4 :: .slice (some ⟨G, 0, none⟩) 4 cap :: x14 :: x15 :: y16 :: y17 :: x18 :: x19 :: x20 :: x21 :: x22 :: x23 :: x24 :: x25 :: x26 :: x27 :: x28 :: x29 :: x30 :: x31 :: x32 :: x33 :: x34 :: x35 :: x36 :: x37 :: x38 :: x39 :: x40 :: x41 :: x42 :: x43 :: x44 :: x45 :: x46 :: x47 :: x48 :: x49 :: x50 :: x51 :: x52 :: x53 :: x54 :: x55 :: x56 :: x57 :: x58 :: x59 :: x60 :: x61 :: x62 :: x63 :: x64 :: x65 :: x66 :: x67 :: x68 :: x69 :: x70 :: x71 :: x72 :: x73 :: x74 :: x75 :: x76 :: x77 :: x78 :: x79 :: y80 :: y81 :: y82 :: y83 :: y84 :: y85 :: y86 :: y87 :: y88 :: y89 :: y90 :: y91 :: y92 :: y93 :: y94 :: y95 :: y96 :: y97 :: y98 :: y99 :: y100 :: y101 :: y102 :: y103 :: y104 :: y105 :: y106 :: y107 :: y108 :: y109 :: y110 :: y111 :: y112 :: y113 :: y114 :: y115 :: y116 :: y117 :: y118 :: y119 :: y120 :: y121 :: y122 :: y123 :: y124 :: y125 :: y126 :: y127 :: y128 :: y129 :: y130 :: y131 :: y132 :: y133 :: y134 :: y135 :: y136 :: y137 :: y138 :: y139 :: y140 :: y141 :: y142 :: y143 :: y144 :: y145 :: y146 :: y147 :: y148 :: y149 :: y150 :: y151 :: y152 :: y153 :: y154 :: y155 :: y156 :: y157 :: y158 :: y159 :: y160 :: y161 :: y162 :: y163 :: y164 :: y165 :: y166 :: y167 :: x168 :: x169 :: x170 :: x171 :: x172 :: x173 :: x174 :: x175 :: x176 :: x177 :: x178 :: x179 :: x180 :: x181 :: x182 :: x183 :: x184 :: x185 :: x186 :: x187 :: x188 :: x189 :: x190 :: x191 :: x192 :: x193 :: x194 :: x195 :: x196 :: x197 :: x198 :: x199 :: x200 :: x201 :: x202 :: x203 :: x204 :: x205 :: x206 :: x207 :: x208 :: x209 :: x210 :: x211 :: x212 :: x213 :: x214 :: x215 :: x216 :: x217 :: x218 :: x219 :: x220 :: x221 :: x222 :: x223 :: x224 :: x225 :: x226 :: x227 :: x228 :: x229 :: x230 :: x231 :: x232 :: x233 :: x234 :: x235 :: x236 :: x237 :: x238 :: x239 :: x240 :: x241 :: x242 :: x243 :: x244 :: x245 :: x246 :: x247 :: x248 :: x249 :: x250 :: x251 :: x252 :: x253 :: x254 :: x255 :: x256 :: x257 :: x258 :: x259 :: x260 :: x261 :: x262 :: x263 :: x264 :: x265 :: x266 :: x267 :: []), []⟩ W')
    : Code.wp Try.prog leastOut Q0 ⟨List.toArray (x0 :: x1 :: x2 :: x3 :: x4 :: x5 :: x6 :: x7 :: .pointer (some ⟨A, 0, none⟩) :: .pointer (some ⟨D, 0, none⟩) :: x10 :: x11 :: .slice (some ⟨Lb, 0, none⟩) 4 4 :: .slice (some ⟨G, 0, none⟩) 4 cap :: x14 :: x15 :: x16 :: x17 :: x18 :: x19 :: x20 :: x21 :: x22 :: x23 :: x24 :: x25 :: x26 :: x27 :: x28 :: x29 :: x30 :: x31 :: x32 :: x33 :: x34 :: x35 :: x36 :: x37 :: x38 :: x39 :: x40 :: x41 :: x42 :: x43 :: x44 :: x45 :: x46 :: x47 :: x48 :: x49 :: x50 :: x51 :: x52 :: x53 :: x54 :: x55 :: x56 :: x57 :: x58 :: x59 :: x60 :: x61 :: x62 :: x63 :: x64 :: x65 :: x66 :: x67 :: x68 :: x69 :: x70 :: x71 :: x72 :: x73 :: x74 :: x75 :: x76 :: x77 :: x78 :: x79 :: x80 :: x81 :: x82 :: x83 :: x84 :: x85 :: x86 :: x87 :: x88 :: x89 :: x90 :: x91 :: x92 :: x93 :: x94 :: x95 :: x96 :: x97 :: x98 :: x99 :: x100 :: x101 :: x102 :: x103 :: x104 :: x105 :: x106 :: x107 :: x108 :: x109 :: x110 :: x111 :: x112 :: x113 :: x114 :: x115 :: x116 :: x117 :: x118 :: x119 :: x120 :: x121 :: x122 :: x123 :: x124 :: x125 :: x126 :: x127 :: x128 :: x129 :: x130 :: x131 :: x132 :: x133 :: x134 :: x135 :: x136 :: x137 :: x138 :: x139 :: x140 :: x141 :: x142 :: x143 :: x144 :: x145 :: x146 :: x147 :: x148 :: x149 :: x150 :: x151 :: x152 :: x153 :: x154 :: x155 :: x156 :: x157 :: x158 :: x159 :: x160 :: x161 :: x162 :: x163 :: x164 :: x165 :: x166 :: x167 :: x168 :: x169 :: x170 :: x171 :: x172 :: x173 :: x174 :: x175 :: x176 :: x177 :: x178 :: x179 :: x180 :: x181 :: x182 :: x183 :: x184 :: x185 :: x186 :: x187 :: x188 :: x189 :: x190 :: x191 :: x192 :: x193 :: x194 :: x195 :: x196 :: x197 :: x198 :: x199 :: x200 :: x201 :: x202 :: x203 :: x204 :: x205 :: x206 :: x207 :: x208 :: x209 :: x210 :: x211 :: x212 :: x213 :: x214 :: x215 :: x216 :: x217 :: x218 :: x219 :: x220 :: x221 :: x222 :: x223 :: x224 :: x225 :: x226 :: x227 :: x228 :: x229 :: x230 :: x231 :: x232 :: x233 :: x234 :: x235 :: x236 :: x237 :: x238 :: x239 :: x240 :: x241 :: x242 :: x243 :: x244 :: x245 :: x246 :: x247 :: x248 :: x249 :: x250 :: x251 :: x252 :: x253 :: x254 :: x255 :: x256 :: x257 :: x258 :: x259 :: x260 :: x261 :: x262 :: x263 :: x264 :: x265 :: x266 :: x267 :: []), []⟩ W := by
  conv => arg 2; whnf
  have HQ := Lib.hid hQ; clear hQ
  have HN := Lib.hid n; clear n
  have HC : Hid (LeC w A D Rb Lb G s t r0 r1 r2 r3 B0 B1 B2 B3 (out0 s t B0 0) (out1 s t B1 0) (out2 s t B2 0) (allJ s t B3 0) W) := Lib.hid (by
    obtain ⟨z0, _, _, _⟩ := out_zero s t B0
    obtain ⟨_, z1, _, _⟩ := out_zero s t B1
    obtain ⟨_, _, z2, _⟩ := out_zero s t B2
    obtain ⟨_, _, _, z3⟩ := out_zero s t B3
    rw [z0, z1, z2, z3]
    exact H0)
  clear H0
  have ss := hs.st0
  have sz : s.st ≤ 206 := by have := hs.stle; omega
  have sl := hs.le
  obtain ⟨g0, g1, g2⟩ := HC.out.fa
  go_wp2_with fail
  clear g0 g1 g2
  go_loopw [16] (fun a wr => ∃ j : Nat, j ≤ cntE s ∧ a = .int .i64 (elM s j) ∧ Hid (LeC w A D Rb Lb G s t r0 r1 r2 r3 B0 B1 B2 B3 (out0 s t B0 j) (out1 s t B1 j) (out2 s t B2 j) (allJ s t B3 j) wr)) (fun a _ => (s.hi + 1 - intOf a).toNat)
  case atStart => exact ⟨0, by omega, congrArg (Value.int .i64) (by unfold elM; simp), HC⟩
  case round =>
    clear HC W
    obtain ⟨j, hj, rfl, HC⟩ := hrel
    have hcnt := elM_lt hs j
    have hb1 := el_bd hs j
    have hsu := elM_succ s j
    obtain ⟨a, ha⟩ : ∃ a, a = elM s j := ⟨_, rfl⟩
    rw [← ha] at hcnt hb1 hsu
    rw [← ha]
    have HA := Lib.hid ha; clear ha
    have HS := Lib.hid hsu; clear hsu
    obtain ⟨g0, g1, g2⟩ := HC.out.fa
    by_cases hlt : a ≤ s.hi
    · have hlt2 := hcnt.1 hlt
      clear hcnt
      go_upto_region 18 with fail
      clear g0 g1 g2
      rename_i K1 hK1
      have HK : ∀ a w, Met (Code.wp Try.prog leastIn _) a w → K1 a w := fun a w h => hK1 a w h
      clear hK1
      refine least18_any w A D Rb Lb G s t r0 r1 r2 r3 B0 B1 B2 B3 (out0 s t B0 j) (out1 s t B1 j) (out2 s t B2 j) (allJ s t B3 j) a 0 cap _ _ _ _ _ _ _ _ _ _ _ _ _ _ _ _ _ _ _ _ _ _ _ _ _ _ _ _ _ _ _ _ _ _ _ _ _ _ _ _ _ _ _ _ _ _ _ _ _ _ _ _ _ _ _ _ _ _ _ _ _ _ _ _ _ _ _ _ _ _ _ _ _ _ _ _ _ _ _ _ _ _ _ _ _ _ _ _ _ _ _ _ _ _ _ _ _ _ _ _ _ _ _ _ _ _ _ _ _ _ _ _ _ _ _ _ _ _ _ _ _ _ _ _ _ _ _ _ _ _ _ _ _ _ _ _ _ _ _ _ _ _ _ _ _ _ _ _ _ _ _ _ _ _ _ _ _ _ _ _ _ _ _ _ _ _ _ _ _ _ _ _ _ _ _ _ _ _ _ _ _ _ _ _ _ _ _ _ _ _ _ _ _ _ _ _ _ _ _ _ _ _ _ _ _ _ _ _ _ _ _ _ _ _ _ _ _ _ _ _ _ _ _ _ _ _ _ _ _ _ _ _ _ _ _ _ _ _ _ _ _ _ _ _ _ _ _ _ _ _ _ _ _ _ _ _ _ _ _ _ _ _ _ _ _ HN.out v3 (by omega) (by omega) (by omega) (by omega) (by omega) (by omega) _ HC.out _ ?_
      clear HC
      intro y91 y92 y93 y94 y95 y96 y97 y98 y99 y100 y101 y102 W1 HC
      go_wp2_with fail
      unfold Met
      refine least_in_any w A D Rb Lb G s t r0 r1 r2 r3 B0 B1 B2 B3 (out0 s t B0 j) (out1 s t B1 j) (out2 s t B2 j) (allJ s t B3 j && hasB B3 a) a cap _ _ _ _ _ _ _ _ _ _ _ _ _ _ _ _ _ _ _ _ _ _ _ _ _ _ _ _ _ _ _ _ _ _ _ _ _ _ _ _ _ _ _ _ _ _ _ _ _ _ _ _ _ _ _ _ _ _ _ _ _ _ _ _ _ _ _ _ _ _ _ _ _ _ _ _ _ _ _ _ _ _ _ _ _ _ _ _ _ _ _ _ _ _ _ _ _ _ _ _ _ _ _ _ _ _ _ _ _ _ _ _ _ _ _ _ _ _ _ _ _ _ _ _ _ _ _ _ _ _ _ _ _ _ _ _ _ _ _ _ _ _ _ _ _ _ _ _ _ _ _ _ _ _ _ _ _ _ _ _ _ _ _ _ _ _ _ _ _ _ _ _ _ _ _ _ _ _ _ _ _ _ _ _ _ _ _ _ _ _ _ _ _ _ _ _ _ _ _ _ _ _ _ _ _ _ _ _ _ _ _ _ _ _ _ _ _ _ _ _ _ _ _ _ _ _ _ _ _ _ _ _ _ _ _ _ _ _ _ _ _ _ _ _ _ _ _ _ _ _ _ _ _ _ _ _ _ _ _ _ _ _ _ HN.out ht v0 v1 v2 v3 t1 t2 (by omega) (by omega) _ HC.out _ ?_
      clear HC W1
      intro y17 y103 y104 y105 y106 y107 y108 y109 y110 y111 y112 y113 y114 y115 y116 y117 y118 y119 y120 y121 y122 y123 y124 y125 y126 y127 y128 y129 y130 y131 y132 y133 y134 y135 y136 y137 y138 y139 y140 y141 y142 y143 y144 y145 y146 y147 y148 y149 y150 y151 y152 y153 y154 y155 y156 y157 y158 y159 y160 y161 y162 y163 y164 y165 y166 y167 W1 HC
      have HE : Hid (LeC w A D Rb Lb G s t r0 r1 r2 r3 B0 B1 B2 B3 (out0 s t B0 (j + 1)) (out1 s t B1 (j + 1)) (out2 s t B2 (j + 1)) (allJ s t B3 (j + 1)) W1) := Lib.hid (by
        rw [out0_succ, out1_succ, out2_succ, allJ_succ, ← Bool.and_assoc, ← HA.out]
        exact HC.out)
      clear HC
      obtain ⟨g0, g1, g2⟩ := HE.out.fa
      go_wp2_with fail
      go_roundw
      case rel => exact ⟨j + 1, by omega, congrArg (Value.int .i64) (by rw [HS.out]; congr 1; split <;> omega), HE⟩
      case measure => simp [intOf]; split <;> omega
    · have hje : j = cntE s := by
        have := fun h => hlt (hcnt.2 h)
        omega
      have HE : Hid (LeC w A D Rb Lb G s t r0 r1 r2 r3 B0 B1 B2 B3 (out0 s t B0 (cntE s)) (out1 s t B1 (cntE s)) (out2 s t B2 (cntE s)) (allJ s t B3 (cntE s)) wr) := by rw [← hje]; exact HC
      clear HC hcnt hje
      go_wp2_with fail
      apply HQ.out
      exact HE
end Go.Proofs.Ytnihhchgnkfcgaa

