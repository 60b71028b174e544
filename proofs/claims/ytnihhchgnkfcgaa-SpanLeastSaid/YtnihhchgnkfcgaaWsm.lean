/- The walk of SpanLeast. -/
import Derived.Test.YtnihhchgnkfcgaaWsb
import Derived.Test.YtnihhchgnkfcgaaWsc
import Derived.Test.YtnihhchgnkfcgaaWse
import Derived.Test.YtnihhchgnkfcgaaWrt
import Derived.Deep.DeepCutAuto
-- USEBDN
set_option linter.unusedSimpArgs false
set_option linter.unusedVariables false
namespace Go.Proofs.Ytnihhchgnkfcgaa
open Go.ChangeShapes Go.WideShapes Go.ChangeAt Go.RowKit
noncomputable def leastRest : Code := navC [1, 1, 1, 1, 1, 1, 1, 1, 1] (Try.f9.body.getD .skip)
theorem wp_then {P : Program} {x y : Code} {Q : Exit → Act → World → Prop} {a : Act} {w : World} (h : x.wp P (Exit.then (fun a w => y.wp P Q a w) Q) a w) : (Code.seq x y).wp P Q a w := wp_seq h
set_option maxRecDepth 100000 in
/-- All behind the loop that makes the great spans. -/
theorem least_rest_any (w : World) (A D Rb Lb G : Nat) (s t r0 r1 r2 r3 B0 B1 B2 B3 : Sp) (cap : Nat) (x0 x1 x2 x3 x4 x5 x6 x10 x14 x15 x16 x17 x18 x19 x20 x21 x22 x23 x24 x25 x26 x27 x28 x29 x30 x31 x32 x33 x34 x35 x36 x37 x38 x39 x40 x41 x42 x43 x44 x45 x46 x47 x48 x49 x50 x51 x52 x53 x54 x55 x56 x57 x58 x59 x60 x61 x62 x63 x64 x65 x66 x67 x68 x69 x70 x71 x72 x73 x74 x75 x76 x77 x78 x79 x80 x81 x82 x83 x84 x85 x86 x87 x88 x89 x90 x91 x92 x93 x94 x95 x96 x97 x98 x99 x100 x101 x102 x103 x104 x105 x106 x107 x108 x109 x110 x111 x112 x113 x114 x115 x116 x117 x118 x119 x120 x121 x122 x123 x124 x125 x126 x127 x128 x129 x130 x131 x132 x133 x134 x135 x136 x137 x138 x139 x140 x141 x142 x143 x144 x145 x146 x147 x148 x149 x150 x151 x152 x153 x154 x155 x156 x157 x158 x159 x160 x161 x162 x163 x164 x165 x166 x167 x168 x169 x170 x171 x172 x173 x174 x175 x176 x177 x178 x179 x180 x181 x182 x183 x184 x185 x186 x187 x188 x189 x190 x191 x192 x193 x194 x195 x196 x197 x198 x199 x200 x201 x202 x203 x204 x205 x206 x207 x208 x209 x210 x211 x212 x213 x214 x215 x216 x217 x218 x219 x220 x221 x222 x223 x224 x225 x226 x227 x228 x229 x230 x231 x232 x233 x234 x235 x236 x237 x238 x239 x240 x241 x242 x243 x244 x245 x246 x247 x248 x249 x250 x251 x252 x253 x254 x255 x256 x257 x258 x259 x260 x261 x262 x263 x264 x265 x266 x267 : Value) (hs : Vld s) (ht : Vld t) (v0 : Vld B0) (v1 : Vld B1) (v2 : Vld B2) (v3 : Vld B3) (w0 : Vld r0) (w1 : Vld r1) (w2 : Vld r2) (w3 : Vld r3) (s1 : -40 ≤ s.lo) (s2 : s.hi ≤ 166) (t1 : -40 ≤ t.lo) (t2 : t.hi ≤ 166) (e0 : r0.lo = s.lo + t.lo) (e1 : r0.hi = s.hi + t.hi) (e2 : r1.lo = s.lo - t.hi) (e3 : r1.hi = s.hi - t.lo) (e4 : r3.lo = min s.lo t.lo) (e5 : r3.hi = max s.hi t.hi)
    (k0 : insideB r0 B0 = out0 s t B0 (cntE s)) (k1 : insideB r1 B1 = out1 s t B1 (cntE s)) (k2 : insideB r2 B2 = out2 s t B2 (cntE s)) (k3 : insideB r3 B3 = allJ s t B3 (cntE s)) (W : World) (H0 : LeN w A D Rb Lb G ∧ LeC w A D Rb Lb G s t r0 r1 r2 r3 B0 B1 B2 B3 true true true true W) :
    Code.wp Try.prog leastRest (bodyPost Try.prog Try.f9 fun e w' => e = .returned (.bool true) ∧ Below w.heap.size w w') ⟨List.toArray (x0 :: x1 :: x2 :: x3 :: x4 :: x5 :: x6 :: .bool true :: .pointer (some ⟨A, 0, none⟩) :: .pointer (some ⟨D, 0, none⟩) :: x10 :: .slice (some ⟨Rb, 0, none⟩) 4 4 :: .slice (some ⟨Lb, 0, none⟩) 4 4 :: .slice (some ⟨G, 0, none⟩) 4 cap :: x14 :: x15 :: x16 :: x17 :: x18 :: x19 :: x20 :: x21 :: x22 :: x23 :: x24 :: x25 :: x26 :: x27 :: x28 :: x29 :: x30 :: x31 :: x32 :: x33 :: x34 :: x35 :: x36 :: x37 :: x38 :: x39 :: x40 :: x41 :: x42 :: x43 :: x44 :: x45 :: x46 :: x47 :: x48 :: x49 :: x50 :: x51 :: x52 :: x53 :: x54 :: x55 :: x56 :: x57 :: x58 :: x59 :: x60 :: x61 :: x62 :: x63 :: x64 :: x65 :: x66 :: x67 :: x68 :: x69 :: x70 :: x71 :: x72 :: x73 :: x74 :: x75 :: x76 :: x77 :: x78 :: x79 :: x80 :: x81 :: x82 :: x83 :: x84 :: x85 :: x86 :: x87 :: x88 :: x89 :: x90 :: x91 :: x92 :: x93 :: x94 :: x95 :: x96 :: x97 :: x98 :: x99 :: x100 :: x101 :: x102 :: x103 :: x104 :: x105 :: x106 :: x107 :: x108 :: x109 :: x110 :: x111 :: x112 :: x113 :: x114 :: x115 :: x116 :: x117 :: x118 :: x119 :: x120 :: x121 :: x122 :: x123 :: x124 :: x125 :: x126 :: x127 :: x128 :: x129 :: x130 :: x131 :: x132 :: x133 :: x134 :: x135 :: x136 :: x137 :: x138 :: x139 :: x140 :: x141 :: x142 :: x143 :: x144 :: x145 :: x146 :: x147 :: x148 :: x149 :: x150 :: x151 :: x152 :: x153 :: x154 :: x155 :: x156 :: x157 :: x158 :: x159 :: x160 :: x161 :: x162 :: x163 :: x164 :: x165 :: x166 :: x167 :: x168 :: x169 :: x170 :: x171 :: x172 :: x173 :: x174 :: x175 :: x176 :: x177 :: x178 :: x179 :: x180 :: x181 :: x182 :: x183 :: x184 :: x185 :: x186 :: x187 :: x188 :: x189 :: x190 :: x191 :: x192 :: x193 :: x194 :: x195 :: x196 :: x197 :: x198 :: x199 :: x200 :: x201 :: x202 :: x203 :: x204 :: x205 :: x206 :: x207 :: x208 :: x209 :: x210 :: x211 :: x212 :: x213 :: x214 :: x215 :: x216 :: x217 :: x218 :: x219 :: x220 :: x221 :: x222 :: x223 :: x224 :: x225 :: x226 :: x227 :: x228 :: x229 :: x230 :: x231 :: x232 :: x233 :: x234 :: x235 :: x236 :: x237 :: x238 :: x239 :: x240 :: x241 :: x242 :: x243 :: x244 :: x245 :: x246 :: x247 :: x248 :: x249 :: x250 :: x251 :: x252 :: x253 :: x254 :: x255 :: x256 :: x257 :: x258 :: x259 :: x260 :: x261 :: x262 :: x263 :: x264 :: x265 :: x266 :: x267 :: []), []⟩ W := by
  conv => arg 2; whnf
  refine wp_seq ?_
  refine least_out_any w A D Rb Lb G s t r0 r1 r2 r3 B0 B1 B2 B3 cap _ _ _ _ _ _ _ _ _ _ _ _ _ _ _ _ _ _ _ _ _ _ _ _ _ _ _ _ _ _ _ _ _ _ _ _ _ _ _ _ _ _ _ _ _ _ _ _ _ _ _ _ _ _ _ _ _ _ _ _ _ _ _ _ _ _ _ _ _ _ _ _ _ _ _ _ _ _ _ _ _ _ _ _ _ _ _ _ _ _ _ _ _ _ _ _ _ _ _ _ _ _ _ _ _ _ _ _ _ _ _ _ _ _ _ _ _ _ _ _ _ _ _ _ _ _ _ _ _ _ _ _ _ _ _ _ _ _ _ _ _ _ _ _ _ _ _ _ _ _ _ _ _ _ _ _ _ _ _ _ _ _ _ _ _ _ _ _ _ _ _ _ _ _ _ _ _ _ _ _ _ _ _ _ _ _ _ _ _ _ _ _ _ _ _ _ _ _ _ _ _ _ _ _ _ _ _ _ _ _ _ _ _ _ _ _ _ _ _ _ _ _ _ _ _ _ _ _ _ _ _ _ _ _ _ _ _ _ _ _ _ _ _ _ _ _ _ _ _ _ _ _ _ _ _ _ _ _ _ _ _ _ _ _ H0.1 hs ht v0 v1 v2 v3 s1 s2 t1 t2 _ H0.2 _ ?_
  intro y16 y17 y80 y81 y82 y83 y84 y85 y86 y87 y88 y89 y90 y91 y92 y93 y94 y95 y96 y97 y98 y99 y100 y101 y102 y103 y104 y105 y106 y107 y108 y109 y110 y111 y112 y113 y114 y115 y116 y117 y118 y119 y120 y121 y122 y123 y124 y125 y126 y127 y128 y129 y130 y131 y132 y133 y134 y135 y136 y137 y138 y139 y140 y141 y142 y143 y144 y145 y146 y147 y148 y149 y150 y151 y152 y153 y154 y155 y156 y157 y158 y159 y160 y161 y162 y163 y164 y165 y166 y167 W1 H1
  refine wp_seq (Q := bodyPost Try.prog Try.f9 fun e w' => e = .returned (.bool true) ∧ Below w.heap.size w w') ?_
  refine least_chk_any w A D Rb Lb G s t r0 r1 r2 r3 B0 B1 B2 B3 _ _ _ _ cap _ _ _ _ _ _ _ _ _ _ _ _ _ _ _ _ _ _ _ _ _ _ _ _ _ _ _ _ _ _ _ _ _ _ _ _ _ _ _ _ _ _ _ _ _ _ _ _ _ _ _ _ _ _ _ _ _ _ _ _ _ _ _ _ _ _ _ _ _ _ _ _ _ _ _ _ _ _ _ _ _ _ _ _ _ _ _ _ _ _ _ _ _ _ _ _ _ _ _ _ _ _ _ _ _ _ _ _ _ _ _ _ _ _ _ _ _ _ _ _ _ _ _ _ _ _ _ _ _ _ _ _ _ _ _ _ _ _ _ _ _ _ _ _ _ _ _ _ _ _ _ _ _ _ _ _ _ _ _ _ _ _ _ _ _ _ _ _ _ _ _ _ _ _ _ _ _ _ _ _ _ _ _ _ _ _ _ _ _ _ _ _ _ _ _ _ _ _ _ _ _ _ _ _ _ _ _ _ _ _ _ _ _ _ _ _ _ _ _ _ _ _ _ _ _ _ _ _ _ _ _ _ _ _ _ _ _ _ _ _ _ _ _ _ _ _ _ _ _ _ _ _ _ _ _ _ _ _ _ _ _ _ _ _ _ ⟨w0, v0, k0⟩ ⟨w1, v1, k1⟩ ⟨w2, v2, k2⟩ ⟨w3, v3, k3⟩ _ H1.out _ ?_
  intro y6 y18 y168 y169 y170 y171 y172 y173 y174 y175 y176 y177 y178 y179 y180 y181 y182 y183 y184 y185 y186 y187 y188 y189 y190 y191 y192 y193 W2 H2
  exact least_end_any w A D Rb Lb G s t r0 r1 r2 r3 B0 B1 B2 B3 _ _ _ _ cap _ _ _ _ _ _ _ _ _ _ _ _ _ _ _ _ _ _ _ _ _ _ _ _ _ _ _ _ _ _ _ _ _ _ _ _ _ _ _ _ _ _ _ _ _ _ _ _ _ _ _ _ _ _ _ _ _ _ _ _ _ _ _ _ _ _ _ _ _ _ _ _ _ _ _ _ _ _ _ _ _ _ _ _ _ _ _ _ _ _ _ _ _ _ _ _ _ _ _ _ _ _ _ _ _ _ _ _ _ _ _ _ _ _ _ _ _ _ _ _ _ _ _ _ _ _ _ _ _ _ _ _ _ _ _ _ _ _ _ _ _ _ _ _ _ _ _ _ _ _ _ _ _ _ _ _ _ _ _ _ _ _ _ _ _ _ _ _ _ _ _ _ _ _ _ _ _ _ _ _ _ _ _ _ _ _ _ _ _ _ _ _ _ _ _ _ _ _ _ _ _ _ _ _ _ _ _ _ _ _ _ _ _ _ _ _ _ _ _ _ _ _ _ _ _ _ _ _ _ _ _ _ _ _ _ _ _ _ _ _ _ _ _ _ _ _ _ _ _ _ _ _ _ _ _ _ _ _ _ _ _ _ s1 s2 hs.le t1 t2 ht.le e0 e1 e2 e3 e4 e5 _ H2.out
theorem bounded_eq {lo hi st : Int} (h : (boundedM lo hi st).e = 0) : (boundedM lo hi st).s = madeM lo hi st := by
  unfold boundedM at h ⊢
  split
  · rfl
  · rename_i hn; rw [if_neg hn] at h; cases h
theorem small_mul2 {r s : Sp} (hr : Vld r) (hs : Vld s) (a1 : -40 ≤ r.lo) (a2 : r.hi ≤ 166) (b1 : -40 ≤ s.lo) (b2 : s.hi ≤ 166) : (mulM r s).e = 0 ∧ -100000 ≤ (mulM r s).s.lo ∧ (mulM r s).s.lo ≤ 100000 := by
  have r1 := hr.le; have s1 := hs.le
  have key : ∀ x y : Int, -40 ≤ x → x ≤ 166 → -40 ≤ y → y ≤ 166 → -27556 ≤ x * y ∧ x * y ≤ 27556 := by
    intro x y h1 h2 h3 h4
    have h5 := Int.natAbs_mul x y
    have h6 : x.natAbs * y.natAbs ≤ 166 * 166 := Nat.mul_le_mul (by omega) (by omega)
    omega
  obtain ⟨a1, a2⟩ := key r.lo s.lo (by omega) (by omega) (by omega) (by omega)
  obtain ⟨b1, b2⟩ := key r.lo s.hi (by omega) (by omega) (by omega) (by omega)
  obtain ⟨c1, c2⟩ := key r.hi s.lo (by omega) (by omega) (by omega) (by omega)
  obtain ⟨d1, d2⟩ := key r.hi s.hi (by omega) (by omega) (by omega) (by omega)
  have h : fits4 r s = true := (fits4_iff r s).2 ⟨⟨by omega, by omega⟩, ⟨by omega, by omega⟩, ⟨by omega, by omega⟩, ⟨by omega, by omega⟩⟩
  have he : (mulM r s).e = 0 := by unfold mulM; rw [if_pos h]
  refine ⟨he, ?_⟩
  rw [(mul_eq he).1, made_lo]
  obtain ⟨m1, m2, m3, m4⟩ := min4_bd a1 b1 c1 d1 a2 b2 c2 d2
  unfold mL4
  omega
theorem made_lo2 {x : Sp} {lo hi st : Int} (h : x = madeM lo hi st) : x.lo = lo ∧ x.hi = hi := by rw [h]; exact ⟨rfl, rfl⟩
/-- Meanwhile: a slice of the call's own, too. -/
structure LeP (w : World) (A D Z Rb Lb : Nat) (s t r0 r1 r2 r3 : Sp) (zn : Int) (b0 b1 b2 b3 : Bool) (v : Value) (n : Nat) (xs : List Value) (W : World) : Prop where
  a : LeA w A D Z Rb Lb s t r0 r1 r2 r3 zn b0 b1 b2 b3 W
  o : W.ownsRow (Lb + 1) 28 3 v n xs
theorem own_same {W W' : World} {base e size n : Nat} {v : Value} {xs : List Value} (h : W.ownsRow base e size v n xs) (hs : ∀ g, base ≤ g → g < W.heap.size → W'.heap[g]? = W.heap[g]?) : W'.ownsRow base e size v n xs := by
  obtain ⟨h1, h2 | ⟨g, cap, cur, h3, h4, h5, h6⟩⟩ := h
  · exact ⟨h1, .inl h2⟩
  · exact ⟨h1, .inr ⟨g, cap, cur, h3, h4, by rw [hs g h4 (Mild.lt_of_block h5)]; exact h5, h6⟩⟩
section
variable {w : World} {A D Z Rb Lb : Nat} {s t r0 r1 r2 r3 : Sp} {zn : Int} {b0 b1 b2 b3 : Bool} {v : Value} {n : Nat} {xs : List Value} {W W' : World}
theorem LeP.step : ∀ W W', LeP w A D Z Rb Lb s t r0 r1 r2 r3 zn b0 b1 b2 b3 v n xs W → Below W.heap.size W W' → LeP w A D Z Rb Lb s t r0 r1 r2 r3 zn b0 b1 b2 b3 v n xs W' :=
  fun _ _ h hb => ⟨LeA.step _ _ h.a hb, own_same h.o fun g _ hg => hb.block g hg⟩
theorem LeP.put (q : LeO w A D Z Rb Lb) (h : LeP w A D Z Rb Lb s t r0 r1 r2 r3 zn b0 b1 b2 b3 v n xs W) (i : Nat) (x c0 c1 c2 c3 : Bool) (e : #[Value.bool b0, .bool b1, .bool b2, .bool b3].setIfInBounds i (.bool x) = #[Value.bool c0, .bool c1, .bool c2, .bool c3]) :
    LeP w A D Z Rb Lb s t r0 r1 r2 r3 zn c0 c1 c2 c3 v n xs (W.setCell ⟨Lb, i, none⟩ (.bool x)) :=
  ⟨h.a.put q i x c0 c1 c2 c3 e, own_same h.o fun g h1 _ => (touch_setCell W Lb i (.bool x)).block g (by omega)⟩
theorem own_is12 {base : Nat} {B0 B1 B2 B3 : Sp} (h : W.ownsRow base 28 3 v 4 (v3 B0 ++ v3 B1 ++ v3 B2 ++ v3 B3)) : ∃ G cap, v = .slice (some ⟨G, 0, none⟩) 4 cap ∧ base ≤ G ∧ Is12 W G B0 B1 B2 B3 := by
  obtain ⟨_, ⟨_, h2⟩ | ⟨g, cap, cur, h3, h4, h5, h6, h7, h8, h9⟩⟩ := h
  · cases h2
  · refine ⟨g, cap, h3, h4, ?_⟩
    have key : ∀ i, i < 12 → W.cell? ⟨g, i, none⟩ = (v3 B0 ++ v3 B1 ++ v3 B2 ++ v3 B3)[i]? := fun i hi => by
      rw [Mild.cell_of_block h5, ← h9, List.getElem?_take, if_pos (by omega), ← Array.getElem?_toList]
    exact ⟨key 0 (by omega), key 1 (by omega), key 2 (by omega), key 3 (by omega), key 4 (by omega), key 5 (by omega), key 6 (by omega), key 7 (by omega), key 8 (by omega), key 9 (by omega), key 10 (by omega), key 11 (by omega)⟩
end
theorem made4 : madeCells #[.bool false] 4 = #[.bool false, .bool false, .bool false, .bool false] := by
  apply Array.ext
  · simp [madeCells]
  · intro i h1 h2
    have : i < 4 := by simpa using h2
    rcases (show i = 0 ∨ i = 1 ∨ i = 2 ∨ i = 3 by omega) with rfl | rfl | rfl | rfl <;> simp [madeCells, Nat.mod_one]
theorem make48_4 (W : World) : (Instr.makeSlice 48 (.int .i64 4) (.int .i64 4)).run Try.prog W = .ok (.slice (some ⟨W.heap.size, 0, none⟩) 4 4) (W.alloc (.cells #[.bool false, .bool false, .bool false, .bool false] 4)) := by
  have := make48 4 (by omega) (by omega) W
  rw [this, ← made4]
  rfl
def LeQ (w : World) (A D Rb Lb : Nat) (s t r0 r1 r2 r3 : Sp) (zn step : Int) (j : Nat) (v : Value) (W : World) : Prop :=
  match j with
  | 0 => LeP w A D (w.heap.size + 2) Rb Lb s t r0 r1 r2 r3 zn false false false false v 0 [] W
  | 1 => LeP w A D (w.heap.size + 2) Rb Lb s t r0 r1 r2 r3 zn true false false false v 1 (v3 (bigM r0 step (zn % 40 + 1))) W
  | 2 => LeP w A D (w.heap.size + 2) Rb Lb s t r0 r1 r2 r3 zn true true false false v 2 (v3 (bigM r0 step (zn % 40 + 1)) ++ v3 (bigM r1 step (zn % 40 + 1))) W
  | 3 => LeP w A D (w.heap.size + 2) Rb Lb s t r0 r1 r2 r3 zn true true true false v 3 (v3 (bigM r0 step (zn % 40 + 1)) ++ v3 (bigM r1 step (zn % 40 + 1)) ++ v3 (bigM r2 step (zn % 40 + 1))) W
  | _ => LeP w A D (w.heap.size + 2) Rb Lb s t r0 r1 r2 r3 zn true true true true v 4 (v3 (bigM r0 step (zn % 40 + 1)) ++ v3 (bigM r1 step (zn % 40 + 1)) ++ v3 (bigM r2 step (zn % 40 + 1)) ++ v3 (bigM r3 step (zn % 40 + 1))) W
set_option maxRecDepth 100000 in
set_option maxHeartbeats 8000000 in
theorem least_any (xa xb xc ya yb yc za zb zn : Int) (w : World) (hx : RawB xa xb xc) (hy : RawB ya yb yc) (hzz : RawB za zb zn) :
    Calls Try.prog 9 #[rawv xa xb xc, rawv ya yb yc, rawv za zb zn] w fun e w' => e = .returned (.bool true) ∧ Below w.heap.size w w' := by
  go_enter Try.func9, Try.ntmps9
  go_wp2_with (first | (go_at_call 10; refine (examples_any _).mono ?_; rintro e w1 ⟨rfl, hb⟩; obtain ⟨hc, hf⟩ := bcell hb; have hz := hb.size; (try simp at hz); have z0 : w.heap.size < w1.heap.size := (by omega); have c0 := fun o => hc (w.heap.size) o (by go_size); have f0 := fun o => hf (w.heap.size) o (by go_size); have z1 : w.heap.size + 1 < w1.heap.size := (by omega); have c1 := fun o => hc (w.heap.size + 1) o (by go_size); have f1 := fun o => hf (w.heap.size + 1) o (by go_size); have z2 : w.heap.size + 2 < w1.heap.size := (by omega); have c2 := fun o => hc (w.heap.size + 2) o (by go_size); have f2 := fun o => hf (w.heap.size + 2) o (by go_size); clear hc hf; have hB := bup (B := w.heap.size) (w := w) (by (repeat' (first | (with_reducible exact Below.refl _ _) | (with_reducible assumption) | (with_reducible refine Below.alloc ?_ ?_ _) | (with_reducible refine Below.drew ?_) | (with_reducible refine bdn ?_ _) | (with_reducible refine Below.setCell ?_ ?_ _) | go_size))) hb (by go_size); clear hb))
  refine Mild.region_mild 6 [⟨4, 8, zobj⟩, ⟨5, 9, zobj⟩] (Mild.Cls w.heap.size w [(⟨w.heap.size, 0, none⟩, .int .i64 xa), (⟨w.heap.size, 1, none⟩, .int .u32 xb), (⟨w.heap.size, 2, none⟩, .int .u16 xc), (⟨w.heap.size + 1, 0, none⟩, .int .i64 ya), (⟨w.heap.size + 1, 1, none⟩, .int .u32 yb), (⟨w.heap.size + 1, 2, none⟩, .int .u16 yc), (⟨w.heap.size + 2, 1, none⟩, .int .u32 zb), (⟨w.heap.size + 2, 2, none⟩, .int .u16 zn)]) (by kernel_rfl) 268 (by kernel_rfl) rfl (by simp) Mild.Cls.closed ?h0 ?HM ?H
  case h0 => exact ⟨by (repeat' (first | (with_reducible exact Below.refl _ _) | (with_reducible assumption) | (with_reducible refine Below.alloc ?_ ?_ _) | (with_reducible refine Below.drew ?_) | (with_reducible refine bdn ?_ _) | (with_reducible refine Below.setCell ?_ ?_ _) | go_size)), by omega, by simp [*, go_sem]⟩
  case HM => simp; exact ⟨mk28 _ _ _ _ _, mk28 _ _ _ _ _⟩
  apply Exists.intro
  refine ⟨?HW, ?HT⟩
  case HW =>
    intro W hW
    have hWc := hW.cells; simp only [List.forall_mem_cons, List.not_mem_nil, false_imp_iff, implies_true, and_true] at hWc; obtain ⟨g0, g1, g2, g3, g4, g5, g6, g7⟩ := hWc
    clear hW
    simp only [List.take_succ_cons, List.take_zero]
    repeat (apply Mild.walkM_q rfl; (go_wp2_with (first | (go_at_call 11; (with_reducible refine (small_any xa xb xc _ hx.a1 hx.a2 hx.b1 hx.b2 hx.c1 hx.c2).mono ?_); rintro e w1 ⟨rfl, hb⟩) | (go_at_call 11; (with_reducible refine (small_any ya yb yc _ hy.a1 hy.a2 hy.b1 hy.b2 hy.c1 hy.c2).mono ?_); rintro e w1 ⟨rfl, hb⟩))); (first | refine ⟨rfl, rfl, Below.refl _ _, ?_⟩ | refine ⟨rfl, rfl, hb, ?_⟩))
    repeat apply Mild.walkM_m rfl
    exact Mild.walkM_end rfl
  case HT =>
    intro F w2 hC hheld hinj
    obtain ⟨hA1, hA⟩ := hheld ⟨4, 8, zobj⟩ (by simp)
    obtain ⟨hD1, hD⟩ := hheld ⟨5, 9, zobj⟩ (by simp)
    have k1 : F 4 ≠ F 5 := hinj ⟨4, 8, zobj⟩ (by simp) ⟨5, 9, zobj⟩ (by simp) (by decide)
    have k2 := k1.symm
    clear hinj hheld
    simp only [List.drop_succ_cons, List.drop_zero, Mild.putAll, List.foldl_cons, List.foldl_nil, Mild.ptrTo, Act.put, List.setIfInBounds_toArray, List.set_cons_zero, List.set_cons_succ]
    dsimp only at hA1 hA hD1 hD
    generalize F 4 = A at *
    generalize F 5 = D at *
    clear F
    have lA := Mild.lt_of_block hA
    have lD := Mild.lt_of_block hD
    have hB2 : Below w.heap.size w w2 := hC.below
    have b2 := hC.big
    have cA := Mild.cell_of_block hA
    have cD := Mild.cell_of_block hD
    have fA := Mild.free_of_block hA
    have fD := Mild.free_of_block hD
    have hWc := hC.cells; simp only [List.forall_mem_cons, List.not_mem_nil, false_imp_iff, implies_true, and_true] at hWc; obtain ⟨g0, g1, g2, g3, g4, g5, g6, g7⟩ := hWc
    clear hC hA hD hB g0 g1 g2 g3 g4 g5
    have lA1 : w.heap.size ≤ A := (by omega)
    have lD1 : w.heap.size ≤ D := (by omega)
    have k3 : A ≠ w.heap.size + 2 := (by omega)
    have k4 : D ≠ w.heap.size + 2 := (by omega)
    have k5 := k3.symm
    have k6 := k4.symm
    clear c0 f0 c1 f1 z0 z1 z2 c2 f2 hz hA1 hD1 w1
    have hs := small_vld xa xb xc
    have ht := small_vld ya yb yc
    have bs := small_bd xa xb xc
    have bt := small_bd ya yb yc
    generalize smallM xa xb xc = s at *
    generalize smallM ya yb yc = t at *
    have ls := hs.le; have lt := ht.le
    have zb0 := hzz.b1; have zb1 := hzz.b2; have zn0 := hzz.c1; have zn1 := hzz.c2
    have lZ := World.block_lt_of_cell? _ _ g6
    dsimp only at lZ
    go_wp2_with fail
    refine Mild.region_mild 15 [] (Mild.Cls w.heap.size w [(⟨A, 0, none⟩, .int .i64 s.lo), (⟨A, 1, none⟩, .int .i64 s.hi), (⟨A, 2, none⟩, .int .i64 s.st), (⟨D, 0, none⟩, .int .i64 t.lo), (⟨D, 1, none⟩, .int .i64 t.hi), (⟨D, 2, none⟩, .int .i64 t.st), (⟨w.heap.size + 2, 2, none⟩, .int .u16 zn)]) (by kernel_rfl) 268 (by kernel_rfl) rfl (by simp) Mild.Cls.closed ?h6 (by simp) ?H6
    case h6 => exact ⟨by (repeat' (first | (with_reducible exact Below.refl _ _) | (with_reducible assumption) | (with_reducible refine Below.alloc ?_ ?_ _) | (with_reducible refine Below.drew ?_) | (with_reducible refine bdn ?_ _) | (with_reducible refine Below.setCell ?_ ?_ _) | go_size)), by first | omega | (simp; omega), (by (simp only [List.forall_mem_cons, List.not_mem_nil, false_imp_iff, implies_true, and_true]); simp [*, go_sem])⟩
    apply Exists.intro
    refine ⟨?HW6, ?HT6⟩
    case HW6 =>
      intro W hW
      have hWc := hW.cells; simp only [List.forall_mem_cons, List.not_mem_nil, false_imp_iff, implies_true, and_true] at hWc; obtain ⟨g0, g1, g2, g3, g4, g5, g6⟩ := hWc
      clear hW
      have q0 := fld0
      simp only [List.take_succ_cons, List.take_zero]
      repeat (apply Mild.walkM_q rfl; (go_wp2_with (first | (go_at_call 32; (with_reducible refine (ladd_any s t _ hs.bd ht.bd).mono ?_); rintro e w1 ⟨rfl, hb⟩) | (go_at_call 34; (with_reducible refine (lsub_any s t _ hs.bd ht.bd).mono ?_); rintro e w1 ⟨rfl, hb⟩) | (go_at_call 36; (with_reducible refine (lmul_any s t _ hs.bd ht.bd hs.stle ht.stle).mono ?_); rintro e w1 ⟨rfl, hb⟩) | (go_at_call 23; (with_reducible refine (join_any s t _ hs.bd ht.bd).mono ?_); rintro e w1 ⟨rfl, hb⟩))); (first | refine ⟨rfl, rfl, Below.refl _ _, ?_⟩ | refine ⟨rfl, rfl, hb, ?_⟩))
      exact Mild.walkM_end rfl
    case HT6 =>
      intro F w6 hC u1 u2
      clear u1 u2
      simp only [List.drop_succ_cons, List.drop_zero, Mild.putAll, List.foldl_cons, List.foldl_nil, Mild.ptrTo, Act.put, List.setIfInBounds_toArray, List.set_cons_zero, List.set_cons_succ]
      clear F g6 g7 cA cD fA fD lA lD hB2 b2 lZ k1 k2 k3 k4 k5 k6 w2
      have hWc := hC.cells; simp only [List.forall_mem_cons, List.not_mem_nil, false_imp_iff, implies_true, and_true] at hWc; obtain ⟨g0, g1, g2, g3, g4, g5, g6⟩ := hWc
      have hB6 := hC.below
      have b6 := hC.big
      clear hC
      have lA := World.block_lt_of_cell? _ _ g0
      have lD := World.block_lt_of_cell? _ _ g3
      have lZ := World.block_lt_of_cell? _ _ g6
      dsimp only at lA lD lZ
      have ea : (addM s t).e = 0 := (addM_ok hs ht).2 ⟨by omega, by omega⟩
      have eb : (subM s t).e = 0 := (subM_ok hs ht).2 ⟨by omega, by omega⟩
      obtain ⟨ec, m1, m2⟩ := small_mul2 hs ht (by omega) (by omega) (by omega) (by omega)
      obtain ⟨e0, e1⟩ := made_lo2 (bounded_eq (show (boundedM _ _ _).e = 0 from ea))
      obtain ⟨e2, e3⟩ := made_lo2 (bounded_eq (show (boundedM _ _ _).e = 0 from eb))
      obtain ⟨e4, e5⟩ := made_lo2 (joinM_eq s t)
      have L0 := Lib.hid (fun r => least_add (r := r) hs ht ea)
      have L1 := Lib.hid (fun r => least_sub (r := r) hs ht eb)
      have L2 := Lib.hid (fun r => least_mul (r := r) hs ht ec)
      have L3 := Lib.hid (fun r => least_join (r := r) hs ht)
      have w0 := add_vld hs ht ea
      have w1 := sub_vld hs ht eb
      have w2 := mul_vld hs ht ec
      have w3 := join_vld hs ht
      change (addM s t).s.lo = _ at e0; change (addM s t).s.hi = _ at e1; change (subM s t).s.lo = _ at e2; change (subM s t).s.hi = _ at e3
      clear ea eb ec
      generalize (addM s t) = x0 at *
      generalize (subM s t) = x1 at *
      generalize (mulM s t) = x2 at *
      generalize joinM s t = r3 at *
      obtain ⟨r0, a0⟩ := x0
      obtain ⟨r1, a1⟩ := x1
      obtain ⟨r2, a2⟩ := x2
      dsimp only at *
      obtain ⟨step, hst⟩ : ∃ x, x = zb % 12 + 1 := ⟨_, rfl⟩
      rw [← hst]
      have p1 : 1 ≤ step := by omega
      have p2 : step ≤ 12 := by omega
      clear hst
      have q1 : 0 ≤ step * (zn % 40 + 1) := Int.mul_nonneg (by omega) (by omega)
      have q2 : step * (zn % 40 + 1) ≤ 480 := by
        have := Int.mul_le_mul p2 (show zn % 40 + 1 ≤ 40 by omega) (by omega) (by omega)
        omega
      have c0 : -100000 ≤ r0.lo ∧ r0.lo ≤ 100000 := by omega
      have c1 : -100000 ≤ r1.lo ∧ r1.lo ≤ 100000 := by omega
      have c3 : -100000 ≤ r3.lo ∧ r3.lo ≤ 100000 := by omega
      have vv0 := big_vld (r := r0) p1 p2 q1 q2 c0.1 c0.2
      have vv1 := big_vld (r := r1) p1 p2 q1 q2 c1.1 c1.2
      have vv2 := big_vld (r := r2) p1 p2 q1 q2 m1 m2
      have vv3 := big_vld (r := r3) p1 p2 q1 q2 c3.1 c3.2
      have E0 := Lib.hid e0; have E1 := Lib.hid e1; have E2 := Lib.hid e2; have E3 := Lib.hid e3; have E4 := Lib.hid e4; have E5 := Lib.hid e5
      clear e0 e1 e2 e3 e4 e5
      have hmk := make48_4
      go_upto_region 9 with fail
      rename_i K1 hK1 K2 hK2
      have HK : ∀ (Rb Lb G cap : Nat) (x0 x1 x2 x3 x4 x5 x6 x10 x14 x15 x16 x17 x18 x19 x20 x21 x22 x23 x24 x25 x26 x27 x28 x29 x30 x31 x32 x33 x34 x35 x36 x37 x38 x39 x40 x41 x42 x43 x44 x45 x46 x47 x48 x49 x50 x51 x52 x53 x54 x55 x56 x57 x58 x59 x60 x61 x62 x63 x64 x65 x66 x67 x68 x69 x70 x71 x72 x73 x74 x75 x76 x77 x78 x79 x80 x81 x82 x83 x84 x85 x86 x87 x88 x89 x90 x91 x92 x93 x94 x95 x96 x97 x98 x99 x100 x101 x102 x103 x104 x105 x106 x107 x108 x109 x110 x111 x112 x113 x114 x115 x116 x117 x118 x119 x120 x121 x122 x123 x124 x125 x126 x127 x128 x129 x130 x131 x132 x133 x134 x135 x136 x137 x138 x139 x140 x141 x142 x143 x144 x145 x146 x147 x148 x149 x150 x151 x152 x153 x154 x155 x156 x157 x158 x159 x160 x161 x162 x163 x164 x165 x166 x167 x168 x169 x170 x171 x172 x173 x174 x175 x176 x177 x178 x179 x180 x181 x182 x183 x184 x185 x186 x187 x188 x189 x190 x191 x192 x193 x194 x195 x196 x197 x198 x199 x200 x201 x202 x203 x204 x205 x206 x207 x208 x209 x210 x211 x212 x213 x214 x215 x216 x217 x218 x219 x220 x221 x222 x223 x224 x225 x226 x227 x228 x229 x230 x231 x232 x233 x234 x235 x236 x237 x238 x239 x240 x241 x242 x243 x244 x245 x246 x247 x248 x249 x250 x251 x252 x253 x254 x255 x256 x257 x258 x259 x260 x261 x262 x263 x264 x265 x266 x267 : Value) (W : World), Hid (LeN w A D Rb Lb G ∧ LeC w A D Rb Lb G s t r0 r1 r2 r3 (bigM r0 step (zn % 40 + 1)) (bigM r1 step (zn % 40 + 1)) (bigM r2 step (zn % 40 + 1)) (bigM r3 step (zn % 40 + 1)) true true true true W) → K1 ⟨List.toArray (x0 :: x1 :: x2 :: x3 :: x4 :: x5 :: x6 :: .bool true :: .pointer (some ⟨A, 0, none⟩) :: .pointer (some ⟨D, 0, none⟩) :: x10 :: .slice (some ⟨Rb, 0, none⟩) 4 4 :: .slice (some ⟨Lb, 0, none⟩) 4 4 :: .slice (some ⟨G, 0, none⟩) 4 cap :: x14 :: x15 :: x16 :: x17 :: x18 :: x19 :: x20 :: x21 :: x22 :: x23 :: x24 :: x25 :: x26 :: x27 :: x28 :: x29 :: x30 :: x31 :: x32 :: x33 :: x34 :: x35 :: x36 :: x37 :: x38 :: x39 :: x40 :: x41 :: x42 :: x43 :: x44 :: x45 :: x46 :: x47 :: x48 :: x49 :: x50 :: x51 :: x52 :: x53 :: x54 :: x55 :: x56 :: x57 :: x58 :: x59 :: x60 :: x61 :: x62 :: x63 :: x64 :: x65 :: x66 :: x67 :: x68 :: x69 :: x70 :: x71 :: x72 :: x73 :: x74 :: x75 :: x76 :: x77 :: x78 :: x79 :: x80 :: x81 :: x82 :: x83 :: x84 :: x85 :: x86 :: x87 :: x88 :: x89 :: x90 :: x91 :: x92 :: x93 :: x94 :: x95 :: x96 :: x97 :: x98 :: x99 :: x100 :: x101 :: x102 :: x103 :: x104 :: x105 :: x106 :: x107 :: x108 :: x109 :: x110 :: x111 :: x112 :: x113 :: x114 :: x115 :: x116 :: x117 :: x118 :: x119 :: x120 :: x121 :: x122 :: x123 :: x124 :: x125 :: x126 :: x127 :: x128 :: x129 :: x130 :: x131 :: x132 :: x133 :: x134 :: x135 :: x136 :: x137 :: x138 :: x139 :: x140 :: x141 :: x142 :: x143 :: x144 :: x145 :: x146 :: x147 :: x148 :: x149 :: x150 :: x151 :: x152 :: x153 :: x154 :: x155 :: x156 :: x157 :: x158 :: x159 :: x160 :: x161 :: x162 :: x163 :: x164 :: x165 :: x166 :: x167 :: x168 :: x169 :: x170 :: x171 :: x172 :: x173 :: x174 :: x175 :: x176 :: x177 :: x178 :: x179 :: x180 :: x181 :: x182 :: x183 :: x184 :: x185 :: x186 :: x187 :: x188 :: x189 :: x190 :: x191 :: x192 :: x193 :: x194 :: x195 :: x196 :: x197 :: x198 :: x199 :: x200 :: x201 :: x202 :: x203 :: x204 :: x205 :: x206 :: x207 :: x208 :: x209 :: x210 :: x211 :: x212 :: x213 :: x214 :: x215 :: x216 :: x217 :: x218 :: x219 :: x220 :: x221 :: x222 :: x223 :: x224 :: x225 :: x226 :: x227 :: x228 :: x229 :: x230 :: x231 :: x232 :: x233 :: x234 :: x235 :: x236 :: x237 :: x238 :: x239 :: x240 :: x241 :: x242 :: x243 :: x244 :: x245 :: x246 :: x247 :: x248 :: x249 :: x250 :: x251 :: x252 :: x253 :: x254 :: x255 :: x256 :: x257 :: x258 :: x259 :: x260 :: x261 :: x262 :: x263 :: x264 :: x265 :: x266 :: x267 :: []), []⟩ W := fun Rb Lb G cap x0 x1 x2 x3 x4 x5 x6 x10 x14 x15 x16 x17 x18 x19 x20 x21 x22 x23 x24 x25 x26 x27 x28 x29 x30 x31 x32 x33 x34 x35 x36 x37 x38 x39 x40 x41 x42 x43 x44 x45 x46 x47 x48 x49 x50 x51 x52 x53 x54 x55 x56 x57 x58 x59 x60 x61 x62 x63 x64 x65 x66 x67 x68 x69 x70 x71 x72 x73 x74 x75 x76 x77 x78 x79 x80 x81 x82 x83 x84 x85 x86 x87 x88 x89 x90 x91 x92 x93 x94 x95 x96 x97 x98 x99 x100 x101 x102 x103 x104 x105 x106 x107 x108 x109 x110 x111 x112 x113 x114 x115 x116 x117 x118 x119 x120 x121 x122 x123 x124 x125 x126 x127 x128 x129 x130 x131 x132 x133 x134 x135 x136 x137 x138 x139 x140 x141 x142 x143 x144 x145 x146 x147 x148 x149 x150 x151 x152 x153 x154 x155 x156 x157 x158 x159 x160 x161 x162 x163 x164 x165 x166 x167 x168 x169 x170 x171 x172 x173 x174 x175 x176 x177 x178 x179 x180 x181 x182 x183 x184 x185 x186 x187 x188 x189 x190 x191 x192 x193 x194 x195 x196 x197 x198 x199 x200 x201 x202 x203 x204 x205 x206 x207 x208 x209 x210 x211 x212 x213 x214 x215 x216 x217 x218 x219 x220 x221 x222 x223 x224 x225 x226 x227 x228 x229 x230 x231 x232 x233 x234 x235 x236 x237 x238 x239 x240 x241 x242 x243 x244 x245 x246 x247 x248 x249 x250 x251 x252 x253 x254 x255 x256 x257 x258 x259 x260 x261 x262 x263 x264 x265 x266 x267 W h => hK1 _ _ (least_rest_any w A D Rb Lb G s t r0 r1 r2 r3 _ _ _ _ cap x0 x1 x2 x3 x4 x5 x6 x10 x14 x15 x16 x17 x18 x19 x20 x21 x22 x23 x24 x25 x26 x27 x28 x29 x30 x31 x32 x33 x34 x35 x36 x37 x38 x39 x40 x41 x42 x43 x44 x45 x46 x47 x48 x49 x50 x51 x52 x53 x54 x55 x56 x57 x58 x59 x60 x61 x62 x63 x64 x65 x66 x67 x68 x69 x70 x71 x72 x73 x74 x75 x76 x77 x78 x79 x80 x81 x82 x83 x84 x85 x86 x87 x88 x89 x90 x91 x92 x93 x94 x95 x96 x97 x98 x99 x100 x101 x102 x103 x104 x105 x106 x107 x108 x109 x110 x111 x112 x113 x114 x115 x116 x117 x118 x119 x120 x121 x122 x123 x124 x125 x126 x127 x128 x129 x130 x131 x132 x133 x134 x135 x136 x137 x138 x139 x140 x141 x142 x143 x144 x145 x146 x147 x148 x149 x150 x151 x152 x153 x154 x155 x156 x157 x158 x159 x160 x161 x162 x163 x164 x165 x166 x167 x168 x169 x170 x171 x172 x173 x174 x175 x176 x177 x178 x179 x180 x181 x182 x183 x184 x185 x186 x187 x188 x189 x190 x191 x192 x193 x194 x195 x196 x197 x198 x199 x200 x201 x202 x203 x204 x205 x206 x207 x208 x209 x210 x211 x212 x213 x214 x215 x216 x217 x218 x219 x220 x221 x222 x223 x224 x225 x226 x227 x228 x229 x230 x231 x232 x233 x234 x235 x236 x237 x238 x239 x240 x241 x242 x243 x244 x245 x246 x247 x248 x249 x250 x251 x252 x253 x254 x255 x256 x257 x258 x259 x260 x261 x262 x263 x264 x265 x266 x267 hs ht vv0 vv1 vv2 vv3 w0 w1 w2 w3 (by omega) (by omega) (by omega) (by omega) E0.out E1.out E2.out E3.out E4.out E5.out (L0.out _).symm (L1.out _).symm (L2.out _).symm (L3.out _).symm W h.out)
      clear hK1
      have HQ0 : LeP w A D (w.heap.size + 2) w6.heap.size (w6.heap.size + 1) s t r0 r1 r2 r3 zn false false false false (.slice (some ⟨w6.heap.size + 1 + 1, 0, none⟩) 0 0) 0 [] (((w6.alloc (.cells #[.int .i64 r0.lo, .int .i64 r0.hi, .int .i64 r0.st, .int .i64 r1.lo, .int .i64 r1.hi, .int .i64 r1.st, .int .i64 r2.lo, .int .i64 r2.hi, .int .i64 r2.st, .int .i64 r3.lo, .int .i64 r3.hi, .int .i64 r3.st] 28)).alloc (.cells #[.bool false, .bool false, .bool false, .bool false] 4)).alloc (.cells #[] 28)) := by
        have HA : LeA w A D (w.heap.size + 2) w6.heap.size (w6.heap.size + 1) s t r0 r1 r2 r3 zn false false false false ((w6.alloc (.cells #[.int .i64 r0.lo, .int .i64 r0.hi, .int .i64 r0.st, .int .i64 r1.lo, .int .i64 r1.hi, .int .i64 r1.st, .int .i64 r2.lo, .int .i64 r2.hi, .int .i64 r2.st, .int .i64 r3.lo, .int .i64 r3.hi, .int .i64 r3.st] 28)).alloc (.cells #[.bool false, .bool false, .bool false, .bool false] 4)) := by
          have hsz : (w6.alloc (.cells #[.int .i64 r0.lo, .int .i64 r0.hi, .int .i64 r0.st, .int .i64 r1.lo, .int .i64 r1.hi, .int .i64 r1.st, .int .i64 r2.lo, .int .i64 r2.hi, .int .i64 r2.st, .int .i64 r3.lo, .int .i64 r3.hi, .int .i64 r3.st] 28)).heap.size = w6.heap.size + 1 := by simp
          have hb1 : Below w6.heap.size w6 (w6.alloc (.cells #[.int .i64 r0.lo, .int .i64 r0.hi, .int .i64 r0.st, .int .i64 r1.lo, .int .i64 r1.hi, .int .i64 r1.st, .int .i64 r2.lo, .int .i64 r2.hi, .int .i64 r2.st, .int .i64 r3.lo, .int .i64 r3.hi, .int .i64 r3.st] 28)) := (Below.refl _ _).alloc (Nat.le_refl _) _
          have hr : Is12 (w6.alloc (.cells #[.int .i64 r0.lo, .int .i64 r0.hi, .int .i64 r0.st, .int .i64 r1.lo, .int .i64 r1.hi, .int .i64 r1.st, .int .i64 r2.lo, .int .i64 r2.hi, .int .i64 r2.st, .int .i64 r3.lo, .int .i64 r3.hi, .int .i64 r3.st] 28)) w6.heap.size r0 r1 r2 r3 := ⟨by simp, by simp, by simp, by simp, by simp, by simp, by simp, by simp, by simp, by simp, by simp, by simp⟩
          have ha : Is3 (w6.alloc (.cells #[.int .i64 r0.lo, .int .i64 r0.hi, .int .i64 r0.st, .int .i64 r1.lo, .int .i64 r1.hi, .int .i64 r1.st, .int .i64 r2.lo, .int .i64 r2.hi, .int .i64 r2.st, .int .i64 r3.lo, .int .i64 r3.hi, .int .i64 r3.st] 28)) A s := Is3.step ⟨g0, g1, g2⟩ hb1
          have hd : Is3 (w6.alloc (.cells #[.int .i64 r0.lo, .int .i64 r0.hi, .int .i64 r0.st, .int .i64 r1.lo, .int .i64 r1.hi, .int .i64 r1.st, .int .i64 r2.lo, .int .i64 r2.hi, .int .i64 r2.st, .int .i64 r3.lo, .int .i64 r3.hi, .int .i64 r3.st] 28)) D t := Is3.step ⟨g3, g4, g5⟩ hb1
          have hzc := (hb1.cell (p := ⟨w.heap.size + 2, 2, none⟩) lZ).trans g6
          have hbw : Below w.heap.size w (w6.alloc (.cells #[.int .i64 r0.lo, .int .i64 r0.hi, .int .i64 r0.st, .int .i64 r1.lo, .int .i64 r1.hi, .int .i64 r1.st, .int .i64 r2.lo, .int .i64 r2.hi, .int .i64 r2.st, .int .i64 r3.lo, .int .i64 r3.hi, .int .i64 r3.st] 28)) := hB6.trans (hb1.mono b6)
          generalize w6.alloc _ = w7 at *
          have hb2 : Below w7.heap.size w7 (w7.alloc (.cells #[.bool false, .bool false, .bool false, .bool false] 4)) := (Below.refl _ _).alloc (Nat.le_refl _) _
          exact ⟨hbw.trans (hb2.mono (by omega)), Nat.le_trans (by omega) hb2.size, ha.step hb2, hd.step hb2, (hb2.cell (World.block_lt_of_cell? _ _ hzc)).trans hzc, hr.step hb2, by rw [← hsz]; exact alloc_at _ _⟩
        have hsz : ((w6.alloc (.cells #[.int .i64 r0.lo, .int .i64 r0.hi, .int .i64 r0.st, .int .i64 r1.lo, .int .i64 r1.hi, .int .i64 r1.st, .int .i64 r2.lo, .int .i64 r2.hi, .int .i64 r2.st, .int .i64 r3.lo, .int .i64 r3.hi, .int .i64 r3.st] 28)).alloc (.cells #[.bool false, .bool false, .bool false, .bool false] 4)).heap.size = w6.heap.size + 1 + 1 := by simp
        generalize (w6.alloc _).alloc _ = w8 at *
        have hb3 : Below w8.heap.size w8 (w8.alloc (.cells #[] 28)) := (Below.refl _ _).alloc (Nat.le_refl _) _
        refine ⟨LeA.step _ _ HA hb3, rfl, .inr ⟨w6.heap.size + 1 + 1, 0, #[], rfl, Nat.le_refl _, ?_, Nat.le_refl _, Nat.zero_le _, rfl, rfl⟩⟩
        rw [← hsz]; exact alloc_at _ _
      have HO : Hid (LeO w A D (w.heap.size + 2) w6.heap.size (w6.heap.size + 1)) := Lib.hid ⟨by omega, by omega, by omega, by omega, by omega⟩
      clear g0 g1 g2 g3 g4 g5 g6 hmk hB6
      have HC : Hid (LeQ w A D w6.heap.size (w6.heap.size + 1) s t r0 r1 r2 r3 zn step 0 (.slice (some ⟨w6.heap.size + 1 + 1, 0, none⟩) 0 0) (((w6.alloc (.cells #[.int .i64 r0.lo, .int .i64 r0.hi, .int .i64 r0.st, .int .i64 r1.lo, .int .i64 r1.hi, .int .i64 r1.st, .int .i64 r2.lo, .int .i64 r2.hi, .int .i64 r2.st, .int .i64 r3.lo, .int .i64 r3.hi, .int .i64 r3.st] 28)).alloc (.cells #[.bool false, .bool false, .bool false, .bool false] 4)).alloc (.cells #[] 28))) := Lib.hid HQ0
      clear HQ0
      generalize ((w6.alloc _).alloc _).alloc _ = w9 at *
      clear lA lD lZ b6
      generalize w6.heap.size + 1 = Lb at *
      generalize w6.heap.size = Rb at *
      clear w6
      obtain ⟨c00, c01⟩ := c0; obtain ⟨c10, c11⟩ := c1; obtain ⟨c30, c31⟩ := c3
      go_wp2_with fail
      go_loopw [13, 14] (fun v k wr => ∃ j : Nat, j ≤ 4 ∧ k = .int .i64 j ∧ Hid (LeQ w A D Rb Lb s t r0 r1 r2 r3 zn step j v wr)) (fun _ k _ => 4 - (intOf k).toNat)
      case atStart => exact ⟨0, by omega, rfl, HC⟩
      case round =>
        clear HC w9
        obtain ⟨j, hj, rfl, HC⟩ := hrel
        have hj2 : j = 0 ∨ j = 1 ∨ j = 2 ∨ j = 3 ∨ j = 4 := by omega
        clear hj
        obtain ⟨v, hv⟩ : ∃ v, v = u13 := ⟨_, rfl⟩
        rw [← hv] at HC
        rw [← hv]
        clear hv
        rcases hj2 with rfl | rfl | rfl | rfl | rfl
        · have HP : Hid (LeP w A D (w.heap.size + 2) Rb Lb s t r0 r1 r2 r3 zn false false false false v 0 [] wr) := Lib.hid HC.out
          clear HC
          have cL : wr.cell? ⟨Lb, 0, none⟩ = some (.bool false) := (Mild.cell_of_block HP.out.a.fl _).trans rfl
          have fL : ∀ o, wr.frozen? ⟨Lb, o, none⟩ = false := fun o => Mild.free_of_block HP.out.a.fl o
          have HP2 : Hid (LeP w A D (w.heap.size + 2) Rb Lb s t r0 r1 r2 r3 zn true false false false v 0 [] (wr.setCell ⟨Lb, 0, none⟩ (.bool true))) := Lib.hid (HP.out.put HO.out 0 true true false false false rfl)
          clear HP
          go_wp2_with fail
          clear cL fL
          refine Mild.region_mild 13 [] (LeP w A D (w.heap.size + 2) Rb Lb s t r0 r1 r2 r3 zn true false false false v 0 []) (by kernel_rfl) 268 (by kernel_rfl) rfl (by simp) LeP.step HP2.out (by simp) ?H13a
          apply Exists.intro
          refine ⟨?HW13a, ?HT13a⟩
          case HW13a =>
            intro W hW
            have g0 := hW.a.fr.a0
            have g1 := hW.a.fz
            clear hW
            simp only [List.take_succ_cons, List.take_zero]
            repeat (apply Mild.walkM_q rfl; (go_wp2_with fail); (first | refine ⟨rfl, rfl, Below.refl _ _, ?_⟩ | refine ⟨rfl, rfl, hb, ?_⟩))
            exact Mild.walkM_end rfl
          case HT13a =>
            intro F w9 hC u1 u2
            clear u1 u2
            simp only [List.drop_succ_cons, List.drop_zero, Mild.putAll, List.foldl_cons, List.foldl_nil, Mild.ptrTo, Act.put, List.setIfInBounds_toArray, List.set_cons_zero, List.set_cons_succ]
            clear F HP2
            have HP := Lib.hid hC
            clear hC
            go_upto_region 14 with fail
            refine least14_any step (r0.lo - step * (zn % 40 + 1)) v (Lb + 1) 0 [] _ _ _ _ _ _ _ _ _ _ _ _ _ _ _ _ _ _ _ _ _ _ _ _ _ _ _ _ _ _ _ _ _ _ _ _ _ _ _ _ _ _ _ _ _ _ _ _ _ _ _ _ _ _ _ _ _ _ _ _ _ _ _ _ _ _ _ _ _ _ _ _ _ _ _ _ _ _ _ _ _ _ _ _ _ _ _ _ _ _ _ _ _ _ _ _ _ _ _ _ _ _ _ _ _ _ _ _ _ _ _ _ _ _ _ _ _ _ _ _ _ _ _ _ _ _ _ _ _ _ _ _ _ _ _ _ _ _ _ _ _ _ _ _ _ _ _ _ _ _ _ _ _ _ _ _ _ _ _ _ _ _ _ _ _ _ _ _ _ _ _ _ _ _ _ _ _ _ _ _ _ _ _ _ _ _ _ _ _ _ _ _ _ _ _ _ _ _ _ _ _ _ _ _ _ _ _ _ _ _ _ _ _ _ _ _ _ _ _ _ _ _ _ _ _ _ _ _ _ _ _ _ _ _ _ _ _ _ _ _ _ _ _ _ _ _ _ _ _ _ _ _ _ _ _ _ _ _ _ _ _ _ _ _ _ _ p1 p2 (by omega) (by omega) (by omega) HP.out.o (Mild.lt_of_block HP.out.a.fl) _ ?_
            intro y70 y71 y72 y73 y74 y75 y76 y77 y78 y79 v' W' h14
            have HC : Hid (LeQ w A D Rb Lb s t r0 r1 r2 r3 zn step 1 v' W') := Lib.hid (show LeP w A D (w.heap.size + 2) Rb Lb s t r0 r1 r2 r3 zn true false false false v' 1 (v3 (bigM r0 step (zn % 40 + 1))) W' from ⟨HP.out.a.grown HO.out h14.out.2 (own_block HP.out.o), h14.out.1⟩)
            clear h14 HP
            go_wp2_with fail
            go_roundw
            case rel => exact ⟨1, by omega, rfl, HC⟩
            case measure => simp [intOf]
        · have HP : Hid (LeP w A D (w.heap.size + 2) Rb Lb s t r0 r1 r2 r3 zn true false false false v 1 (v3 (bigM r0 step (zn % 40 + 1))) wr) := Lib.hid HC.out
          clear HC
          have cL : wr.cell? ⟨Lb, 1, none⟩ = some (.bool false) := (Mild.cell_of_block HP.out.a.fl _).trans rfl
          have fL : ∀ o, wr.frozen? ⟨Lb, o, none⟩ = false := fun o => Mild.free_of_block HP.out.a.fl o
          have HP2 : Hid (LeP w A D (w.heap.size + 2) Rb Lb s t r0 r1 r2 r3 zn true true false false v 1 (v3 (bigM r0 step (zn % 40 + 1))) (wr.setCell ⟨Lb, 1, none⟩ (.bool true))) := Lib.hid (HP.out.put HO.out 1 true true true false false rfl)
          clear HP
          go_wp2_with fail
          clear cL fL
          refine Mild.region_mild 13 [] (LeP w A D (w.heap.size + 2) Rb Lb s t r0 r1 r2 r3 zn true true false false v 1 (v3 (bigM r0 step (zn % 40 + 1)))) (by kernel_rfl) 268 (by kernel_rfl) rfl (by simp) LeP.step HP2.out (by simp) ?H13b
          apply Exists.intro
          refine ⟨?HW13b, ?HT13b⟩
          case HW13b =>
            intro W hW
            have g0 := hW.a.fr.b0
            have g1 := hW.a.fz
            clear hW
            simp only [List.take_succ_cons, List.take_zero]
            repeat (apply Mild.walkM_q rfl; (go_wp2_with fail); (first | refine ⟨rfl, rfl, Below.refl _ _, ?_⟩ | refine ⟨rfl, rfl, hb, ?_⟩))
            exact Mild.walkM_end rfl
          case HT13b =>
            intro F w9 hC u1 u2
            clear u1 u2
            simp only [List.drop_succ_cons, List.drop_zero, Mild.putAll, List.foldl_cons, List.foldl_nil, Mild.ptrTo, Act.put, List.setIfInBounds_toArray, List.set_cons_zero, List.set_cons_succ]
            clear F HP2
            have HP := Lib.hid hC
            clear hC
            go_upto_region 14 with fail
            refine least14_any step (r1.lo - step * (zn % 40 + 1)) v (Lb + 1) 1 (v3 (bigM r0 step (zn % 40 + 1))) _ _ _ _ _ _ _ _ _ _ _ _ _ _ _ _ _ _ _ _ _ _ _ _ _ _ _ _ _ _ _ _ _ _ _ _ _ _ _ _ _ _ _ _ _ _ _ _ _ _ _ _ _ _ _ _ _ _ _ _ _ _ _ _ _ _ _ _ _ _ _ _ _ _ _ _ _ _ _ _ _ _ _ _ _ _ _ _ _ _ _ _ _ _ _ _ _ _ _ _ _ _ _ _ _ _ _ _ _ _ _ _ _ _ _ _ _ _ _ _ _ _ _ _ _ _ _ _ _ _ _ _ _ _ _ _ _ _ _ _ _ _ _ _ _ _ _ _ _ _ _ _ _ _ _ _ _ _ _ _ _ _ _ _ _ _ _ _ _ _ _ _ _ _ _ _ _ _ _ _ _ _ _ _ _ _ _ _ _ _ _ _ _ _ _ _ _ _ _ _ _ _ _ _ _ _ _ _ _ _ _ _ _ _ _ _ _ _ _ _ _ _ _ _ _ _ _ _ _ _ _ _ _ _ _ _ _ _ _ _ _ _ _ _ _ _ _ _ _ _ _ _ _ _ _ _ _ _ _ _ _ _ _ _ _ _ p1 p2 (by omega) (by omega) (by omega) HP.out.o (Mild.lt_of_block HP.out.a.fl) _ ?_
            intro y70 y71 y72 y73 y74 y75 y76 y77 y78 y79 v' W' h14
            have HC : Hid (LeQ w A D Rb Lb s t r0 r1 r2 r3 zn step 2 v' W') := Lib.hid (show LeP w A D (w.heap.size + 2) Rb Lb s t r0 r1 r2 r3 zn true true false false v' 2 (v3 (bigM r0 step (zn % 40 + 1)) ++ v3 (bigM r1 step (zn % 40 + 1))) W' from ⟨HP.out.a.grown HO.out h14.out.2 (own_block HP.out.o), h14.out.1⟩)
            clear h14 HP
            go_wp2_with fail
            go_roundw
            case rel => exact ⟨2, by omega, rfl, HC⟩
            case measure => simp [intOf]
        · have HP : Hid (LeP w A D (w.heap.size + 2) Rb Lb s t r0 r1 r2 r3 zn true true false false v 2 (v3 (bigM r0 step (zn % 40 + 1)) ++ v3 (bigM r1 step (zn % 40 + 1))) wr) := Lib.hid HC.out
          clear HC
          have cL : wr.cell? ⟨Lb, 2, none⟩ = some (.bool false) := (Mild.cell_of_block HP.out.a.fl _).trans rfl
          have fL : ∀ o, wr.frozen? ⟨Lb, o, none⟩ = false := fun o => Mild.free_of_block HP.out.a.fl o
          have HP2 : Hid (LeP w A D (w.heap.size + 2) Rb Lb s t r0 r1 r2 r3 zn true true true false v 2 (v3 (bigM r0 step (zn % 40 + 1)) ++ v3 (bigM r1 step (zn % 40 + 1))) (wr.setCell ⟨Lb, 2, none⟩ (.bool true))) := Lib.hid (HP.out.put HO.out 2 true true true true false rfl)
          clear HP
          go_wp2_with fail
          clear cL fL
          refine Mild.region_mild 13 [] (LeP w A D (w.heap.size + 2) Rb Lb s t r0 r1 r2 r3 zn true true true false v 2 (v3 (bigM r0 step (zn % 40 + 1)) ++ v3 (bigM r1 step (zn % 40 + 1)))) (by kernel_rfl) 268 (by kernel_rfl) rfl (by simp) LeP.step HP2.out (by simp) ?H13c
          apply Exists.intro
          refine ⟨?HW13c, ?HT13c⟩
          case HW13c =>
            intro W hW
            have g0 := hW.a.fr.c0
            have g1 := hW.a.fz
            clear hW
            simp only [List.take_succ_cons, List.take_zero]
            repeat (apply Mild.walkM_q rfl; (go_wp2_with fail); (first | refine ⟨rfl, rfl, Below.refl _ _, ?_⟩ | refine ⟨rfl, rfl, hb, ?_⟩))
            exact Mild.walkM_end rfl
          case HT13c =>
            intro F w9 hC u1 u2
            clear u1 u2
            simp only [List.drop_succ_cons, List.drop_zero, Mild.putAll, List.foldl_cons, List.foldl_nil, Mild.ptrTo, Act.put, List.setIfInBounds_toArray, List.set_cons_zero, List.set_cons_succ]
            clear F HP2
            have HP := Lib.hid hC
            clear hC
            go_upto_region 14 with fail
            refine least14_any step (r2.lo - step * (zn % 40 + 1)) v (Lb + 1) 2 (v3 (bigM r0 step (zn % 40 + 1)) ++ v3 (bigM r1 step (zn % 40 + 1))) _ _ _ _ _ _ _ _ _ _ _ _ _ _ _ _ _ _ _ _ _ _ _ _ _ _ _ _ _ _ _ _ _ _ _ _ _ _ _ _ _ _ _ _ _ _ _ _ _ _ _ _ _ _ _ _ _ _ _ _ _ _ _ _ _ _ _ _ _ _ _ _ _ _ _ _ _ _ _ _ _ _ _ _ _ _ _ _ _ _ _ _ _ _ _ _ _ _ _ _ _ _ _ _ _ _ _ _ _ _ _ _ _ _ _ _ _ _ _ _ _ _ _ _ _ _ _ _ _ _ _ _ _ _ _ _ _ _ _ _ _ _ _ _ _ _ _ _ _ _ _ _ _ _ _ _ _ _ _ _ _ _ _ _ _ _ _ _ _ _ _ _ _ _ _ _ _ _ _ _ _ _ _ _ _ _ _ _ _ _ _ _ _ _ _ _ _ _ _ _ _ _ _ _ _ _ _ _ _ _ _ _ _ _ _ _ _ _ _ _ _ _ _ _ _ _ _ _ _ _ _ _ _ _ _ _ _ _ _ _ _ _ _ _ _ _ _ _ _ _ _ _ _ _ _ _ _ _ _ _ _ _ _ _ _ _ p1 p2 (by omega) (by omega) (by omega) HP.out.o (Mild.lt_of_block HP.out.a.fl) _ ?_
            intro y70 y71 y72 y73 y74 y75 y76 y77 y78 y79 v' W' h14
            have HC : Hid (LeQ w A D Rb Lb s t r0 r1 r2 r3 zn step 3 v' W') := Lib.hid (show LeP w A D (w.heap.size + 2) Rb Lb s t r0 r1 r2 r3 zn true true true false v' 3 (v3 (bigM r0 step (zn % 40 + 1)) ++ v3 (bigM r1 step (zn % 40 + 1)) ++ v3 (bigM r2 step (zn % 40 + 1))) W' from ⟨HP.out.a.grown HO.out h14.out.2 (own_block HP.out.o), h14.out.1⟩)
            clear h14 HP
            go_wp2_with fail
            go_roundw
            case rel => exact ⟨3, by omega, rfl, HC⟩
            case measure => simp [intOf]
        · have HP : Hid (LeP w A D (w.heap.size + 2) Rb Lb s t r0 r1 r2 r3 zn true true true false v 3 (v3 (bigM r0 step (zn % 40 + 1)) ++ v3 (bigM r1 step (zn % 40 + 1)) ++ v3 (bigM r2 step (zn % 40 + 1))) wr) := Lib.hid HC.out
          clear HC
          have cL : wr.cell? ⟨Lb, 3, none⟩ = some (.bool false) := (Mild.cell_of_block HP.out.a.fl _).trans rfl
          have fL : ∀ o, wr.frozen? ⟨Lb, o, none⟩ = false := fun o => Mild.free_of_block HP.out.a.fl o
          have HP2 : Hid (LeP w A D (w.heap.size + 2) Rb Lb s t r0 r1 r2 r3 zn true true true true v 3 (v3 (bigM r0 step (zn % 40 + 1)) ++ v3 (bigM r1 step (zn % 40 + 1)) ++ v3 (bigM r2 step (zn % 40 + 1))) (wr.setCell ⟨Lb, 3, none⟩ (.bool true))) := Lib.hid (HP.out.put HO.out 3 true true true true true rfl)
          clear HP
          go_wp2_with fail
          clear cL fL
          refine Mild.region_mild 13 [] (LeP w A D (w.heap.size + 2) Rb Lb s t r0 r1 r2 r3 zn true true true true v 3 (v3 (bigM r0 step (zn % 40 + 1)) ++ v3 (bigM r1 step (zn % 40 + 1)) ++ v3 (bigM r2 step (zn % 40 + 1)))) (by kernel_rfl) 268 (by kernel_rfl) rfl (by simp) LeP.step HP2.out (by simp) ?H13d
          apply Exists.intro
          refine ⟨?HW13d, ?HT13d⟩
          case HW13d =>
            intro W hW
            have g0 := hW.a.fr.d0
            have g1 := hW.a.fz
            clear hW
            simp only [List.take_succ_cons, List.take_zero]
            repeat (apply Mild.walkM_q rfl; (go_wp2_with fail); (first | refine ⟨rfl, rfl, Below.refl _ _, ?_⟩ | refine ⟨rfl, rfl, hb, ?_⟩))
            exact Mild.walkM_end rfl
          case HT13d =>
            intro F w9 hC u1 u2
            clear u1 u2
            simp only [List.drop_succ_cons, List.drop_zero, Mild.putAll, List.foldl_cons, List.foldl_nil, Mild.ptrTo, Act.put, List.setIfInBounds_toArray, List.set_cons_zero, List.set_cons_succ]
            clear F HP2
            have HP := Lib.hid hC
            clear hC
            go_upto_region 14 with fail
            refine least14_any step (r3.lo - step * (zn % 40 + 1)) v (Lb + 1) 3 (v3 (bigM r0 step (zn % 40 + 1)) ++ v3 (bigM r1 step (zn % 40 + 1)) ++ v3 (bigM r2 step (zn % 40 + 1))) _ _ _ _ _ _ _ _ _ _ _ _ _ _ _ _ _ _ _ _ _ _ _ _ _ _ _ _ _ _ _ _ _ _ _ _ _ _ _ _ _ _ _ _ _ _ _ _ _ _ _ _ _ _ _ _ _ _ _ _ _ _ _ _ _ _ _ _ _ _ _ _ _ _ _ _ _ _ _ _ _ _ _ _ _ _ _ _ _ _ _ _ _ _ _ _ _ _ _ _ _ _ _ _ _ _ _ _ _ _ _ _ _ _ _ _ _ _ _ _ _ _ _ _ _ _ _ _ _ _ _ _ _ _ _ _ _ _ _ _ _ _ _ _ _ _ _ _ _ _ _ _ _ _ _ _ _ _ _ _ _ _ _ _ _ _ _ _ _ _ _ _ _ _ _ _ _ _ _ _ _ _ _ _ _ _ _ _ _ _ _ _ _ _ _ _ _ _ _ _ _ _ _ _ _ _ _ _ _ _ _ _ _ _ _ _ _ _ _ _ _ _ _ _ _ _ _ _ _ _ _ _ _ _ _ _ _ _ _ _ _ _ _ _ _ _ _ _ _ _ _ _ _ _ _ _ _ _ _ _ _ _ _ _ _ _ p1 p2 (by omega) (by omega) (by omega) HP.out.o (Mild.lt_of_block HP.out.a.fl) _ ?_
            intro y70 y71 y72 y73 y74 y75 y76 y77 y78 y79 v' W' h14
            have HC : Hid (LeQ w A D Rb Lb s t r0 r1 r2 r3 zn step 4 v' W') := Lib.hid (show LeP w A D (w.heap.size + 2) Rb Lb s t r0 r1 r2 r3 zn true true true true v' 4 (v3 (bigM r0 step (zn % 40 + 1)) ++ v3 (bigM r1 step (zn % 40 + 1)) ++ v3 (bigM r2 step (zn % 40 + 1)) ++ v3 (bigM r3 step (zn % 40 + 1))) W' from ⟨HP.out.a.grown HO.out h14.out.2 (own_block HP.out.o), h14.out.1⟩)
            clear h14 HP
            go_wp2_with fail
            go_roundw
            case rel => exact ⟨4, by omega, rfl, HC⟩
            case measure => simp [intOf]
        · have HP : LeP w A D (w.heap.size + 2) Rb Lb s t r0 r1 r2 r3 zn true true true true v 4 (v3 (bigM r0 step (zn % 40 + 1)) ++ v3 (bigM r1 step (zn % 40 + 1)) ++ v3 (bigM r2 step (zn % 40 + 1)) ++ v3 (bigM r3 step (zn % 40 + 1))) wr := HC.out
          clear HC
          obtain ⟨G, cap, rfl, hG, h12⟩ := own_is12 HP.o
          have HE : Hid (LeN w A D Rb Lb G ∧ LeC w A D Rb Lb G s t r0 r1 r2 r3 (bigM r0 step (zn % 40 + 1)) (bigM r1 step (zn % 40 + 1)) (bigM r2 step (zn % 40 + 1)) (bigM r3 step (zn % 40 + 1)) true true true true wr) :=
            Lib.hid ⟨⟨HO.out.w, Nat.ne_of_lt HO.out.a, Nat.ne_of_lt HO.out.d, Nat.ne_of_lt HO.out.r, by omega⟩, HP.a.below, HP.a.big, HP.a.fa, HP.a.fd, HP.a.fr, h12, HP.a.fl⟩
          clear HP h12
          go_wp2_with fail
          all_goals exact HE
end Go.Proofs.Ytnihhchgnkfcgaa

