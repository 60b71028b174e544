/- The walk of SpanMatchesReference. -/
import Derived.Test.YtnihhchgnkfcgaaWul
import Derived.Test.YtnihhchgnkfcgaaWu7
import Derived.Test.YtnihhchgnkfcgaaWta
-- USEBDN
set_option linter.unusedSimpArgs false
set_option linter.unusedVariables false
namespace Go.Proofs.Ytnihhchgnkfcgaa
open Go.ChangeShapes Go.WideShapes Go.ChangeAt Go.RowKit
theorem MrC.touch {w : World} {L NN b : Nat} {l0 l1 l2 l3 : Sp} {n0 n1 n2 : Int} {W W' : World} (h : MrC w L NN l0 l1 l2 l3 n0 n1 n2 W) (hL : L ≠ b) (hN : NN ≠ b) (hw : w.heap.size ≤ b) (ht : Mild2.Touch b W W') : MrC w L NN l0 l1 l2 l3 n0 n1 n2 W' :=
  have e := cell_same (ht.block NN hN)
  ⟨below_touch h.below hw ht, by rw [ht.size]; exact h.big, h.fl.touch ht hL, (e 0).trans h.f0, (e 1).trans h.f1, (e 2).trans h.f2⟩
noncomputable def matchRest : Code := navC [1, 1, 1, 1, 1, 1, 1] (Try.f7.body.getD .skip)
set_option maxRecDepth 100000 in
theorem match_rest_any (w : World) (L NN : Nat) (l0 l1 l2 l3 : Sp) (n0 n1 n2 : Int) (V0 : MrV l0) (V1 : MrV l1) (V2 : MrV l2) (V3 : MrV l3) (b1 : -9223372036854775808 ≤ n1) (b2 : n1 ≤ 9223372036854775807) (x0 x1 x2 x3 x4 x6 x9 x10 x11 x12 x13 x14 x15 x16 x17 x18 x19 x20 x21 x22 x23 x24 x25 x26 x27 x28 x29 x30 x31 x32 x33 x34 x35 x36 x37 x38 x39 x40 x41 x42 x43 x44 x45 x46 x47 x48 x49 x50 x51 x52 x53 x54 x55 x56 x57 x58 x59 x60 x61 x62 x63 x64 x65 x66 x67 x68 x69 x70 x71 x72 x73 x74 x75 x76 x77 x78 x79 x80 x81 x82 x83 x84 x85 x86 x87 x88 x89 x90 x91 x92 x93 x94 x95 x96 x97 x98 x99 x100 x101 x102 x103 x104 x105 x106 x107 x108 x109 x110 x111 x112 x113 x114 x115 x116 x117 x118 x119 x120 x121 x122 x123 x124 x125 x126 x127 x128 x129 x130 x131 x132 x133 x134 x135 x136 x137 x138 x139 x140 x141 x142 x143 x144 x145 x146 x147 x148 x149 x150 x151 x152 x153 x154 x155 x156 x157 x158 x159 x160 x161 x162 x163 x164 x165 x166 x167 x168 x169 x170 x171 x172 x173 x174 x175 x176 x177 x178 x179 x180 x181 x182 x183 x184 x185 x186 x187 x188 x189 x190 x191 x192 x193 x194 x195 x196 x197 x198 x199 x200 x201 x202 x203 x204 x205 x206 x207 x208 x209 x210 x211 x212 x213 x214 x215 x216 x217 x218 x219 x220 x221 x222 x223 x224 x225 x226 x227 x228 x229 x230 x231 x232 x233 x234 x235 x236 x237 x238 x239 x240 x241 x242 x243 x244 x245 x246 x247 x248 x249 x250 x251 x252 x253 x254 x255 x256 x257 : Value) (W : World) (H0 : MrC w L NN l0 l1 l2 l3 n0 n1 n2 W) :
    Code.wp Try.prog matchRest (bodyPost Try.prog Try.f7 fun e w' => e = .returned (.bool true) ∧ Below w.heap.size w w') ⟨List.toArray (x0 :: x1 :: x2 :: x3 :: x4 :: .pointer (some ⟨NN, 0, none⟩) :: x6 :: .bool true :: .slice (some ⟨L, 0, none⟩) 4 4 :: x9 :: x10 :: x11 :: x12 :: x13 :: x14 :: x15 :: x16 :: x17 :: x18 :: x19 :: x20 :: x21 :: x22 :: x23 :: x24 :: x25 :: x26 :: x27 :: x28 :: x29 :: x30 :: x31 :: x32 :: x33 :: x34 :: x35 :: x36 :: x37 :: x38 :: x39 :: x40 :: x41 :: x42 :: x43 :: x44 :: x45 :: x46 :: x47 :: x48 :: x49 :: x50 :: x51 :: x52 :: x53 :: x54 :: x55 :: x56 :: x57 :: x58 :: x59 :: x60 :: x61 :: x62 :: x63 :: x64 :: x65 :: x66 :: x67 :: x68 :: x69 :: x70 :: x71 :: x72 :: x73 :: x74 :: x75 :: x76 :: x77 :: x78 :: x79 :: x80 :: x81 :: x82 :: x83 :: x84 :: x85 :: x86 :: x87 :: x88 :: x89 :: x90 :: x91 :: x92 :: x93 :: x94 :: x95 :: x96 :: x97 :: x98 :: x99 :: x100 :: x101 :: x102 :: x103 :: x104 :: x105 :: x106 :: x107 :: x108 :: x109 :: x110 :: x111 :: x112 :: x113 :: x114 :: x115 :: x116 :: x117 :: x118 :: x119 :: x120 :: x121 :: x122 :: x123 :: x124 :: x125 :: x126 :: x127 :: x128 :: x129 :: x130 :: x131 :: x132 :: x133 :: x134 :: x135 :: x136 :: x137 :: x138 :: x139 :: x140 :: x141 :: x142 :: x143 :: x144 :: x145 :: x146 :: x147 :: x148 :: x149 :: x150 :: x151 :: x152 :: x153 :: x154 :: x155 :: x156 :: x157 :: x158 :: x159 :: x160 :: x161 :: x162 :: x163 :: x164 :: x165 :: x166 :: x167 :: x168 :: x169 :: x170 :: x171 :: x172 :: x173 :: x174 :: x175 :: x176 :: x177 :: x178 :: x179 :: x180 :: x181 :: x182 :: x183 :: x184 :: x185 :: x186 :: x187 :: x188 :: x189 :: x190 :: x191 :: x192 :: x193 :: x194 :: x195 :: x196 :: x197 :: x198 :: x199 :: x200 :: x201 :: x202 :: x203 :: x204 :: x205 :: x206 :: x207 :: x208 :: x209 :: x210 :: x211 :: x212 :: x213 :: x214 :: x215 :: x216 :: x217 :: x218 :: x219 :: x220 :: x221 :: x222 :: x223 :: x224 :: x225 :: x226 :: x227 :: x228 :: x229 :: x230 :: x231 :: x232 :: x233 :: x234 :: x235 :: x236 :: x237 :: x238 :: x239 :: x240 :: x241 :: x242 :: x243 :: x244 :: x245 :: x246 :: x247 :: x248 :: x249 :: x250 :: x251 :: x252 :: x253 :: x254 :: x255 :: x256 :: x257 :: []), []⟩ W := by
  conv => arg 2; whnf
  refine wp_seq ?_
  refine match_out_any w L NN l0 l1 l2 l3 n0 n1 n2 V0 V1 V2 V3 b1 b2 _ _ _ _ _ _ _ _ _ _ _ _ _ _ _ _ _ _ _ _ _ _ _ _ _ _ _ _ _ _ _ _ _ _ _ _ _ _ _ _ _ _ _ _ _ _ _ _ _ _ _ _ _ _ _ _ _ _ _ _ _ _ _ _ _ _ _ _ _ _ _ _ _ _ _ _ _ _ _ _ _ _ _ _ _ _ _ _ _ _ _ _ _ _ _ _ _ _ _ _ _ _ _ _ _ _ _ _ _ _ _ _ _ _ _ _ _ _ _ _ _ _ _ _ _ _ _ _ _ _ _ _ _ _ _ _ _ _ _ _ _ _ _ _ _ _ _ _ _ _ _ _ _ _ _ _ _ _ _ _ _ _ _ _ _ _ _ _ _ _ _ _ _ _ _ _ _ _ _ _ _ _ _ _ _ _ _ _ _ _ _ _ _ _ _ _ _ _ _ _ _ _ _ _ _ _ _ _ _ _ _ _ _ _ _ _ _ _ _ _ _ _ _ _ _ _ _ _ _ _ _ _ _ _ _ _ _ _ _ _ _ _ _ _ _ _ _ _ _ _ _ _ _ _ _ _ _ H0 _ ?_
  clear H0
  intro y6 y11 y12 y13 y14 y117 y118 y119 y120 y121 y122 y123 y124 y125 y126 y127 y128 y129 y130 y131 y132 y133 y134 y135 y136 y137 y138 y139 y140 y141 y142 y143 y144 y145 y146 y147 y148 y149 y150 y151 y152 y153 y154 y155 y156 y157 y158 y159 y160 y161 y162 y163 y164 y165 y166 y167 y168 y169 y170 y171 y172 y173 y174 y175 y176 y177 y178 y179 y180 y181 y182 y183 y184 y185 y186 y187 y188 y189 y190 y191 y192 y193 y194 y195 y196 y197 y198 y199 y200 y201 y202 y203 y204 y205 y206 y207 y208 y209 y210 y211 y212 y213 y214 y215 y216 y217 y218 y219 y220 y221 y222 y223 y224 y225 y226 y227 y228 y229 y230 y231 y232 y233 y234 y235 y236 y237 y238 y239 y240 y241 y242 y243 y244 y245 y246 y247 y248 y249 y250 y251 y252 y253 y254 y255 y256 W1 HC
  have hB := HC.out.below
  clear HC
  go_wp2_with fail
  go_ret
  exact ⟨rfl, hB⟩
set_option maxRecDepth 100000 in
set_option maxHeartbeats 8000000 in
theorem match_any (xa xb xc ya yb yc n0 n1 n2 : Int) (w : World) (hx : RawB xa xb xc) (hy : RawB ya yb yc) (h00 : -9223372036854775808 ≤ n0) (h01 : n0 ≤ 9223372036854775807) (h10 : -9223372036854775808 ≤ n1) (h11 : n1 ≤ 9223372036854775807) (h20 : -9223372036854775808 ≤ n2) (h21 : n2 ≤ 9223372036854775807) :
    Calls Try.prog 7 #[rawv xa xb xc, rawv ya yb yc, .agg #[.int .i64 n0, .int .i64 n1, .int .i64 n2]] w fun e w' => e = .returned (.bool true) ∧ Below w.heap.size w w' := by
  go_enter Try.func7, Try.ntmps7
  go_wp2_with (first | (go_at_call 10; refine (examples_any _).mono ?_; rintro e w1 ⟨rfl, hb⟩; obtain ⟨hc, hf⟩ := bcell hb; have hz := hb.size; (try simp at hz); have z0 : w.heap.size < w1.heap.size := (by omega); have c0 := fun o => hc (w.heap.size) o (by go_size); have f0 := fun o => hf (w.heap.size) o (by go_size); have z1 : w.heap.size + 1 < w1.heap.size := (by omega); have c1 := fun o => hc (w.heap.size + 1) o (by go_size); have f1 := fun o => hf (w.heap.size + 1) o (by go_size); have z2 : w.heap.size + 2 < w1.heap.size := (by omega); have c2 := fun o => hc (w.heap.size + 2) o (by go_size); have f2 := fun o => hf (w.heap.size + 2) o (by go_size); clear hc hf; have hB := bup (B := w.heap.size) (w := w) (by (repeat' (first | (with_reducible exact Below.refl _ _) | (with_reducible assumption) | (with_reducible refine Below.alloc ?_ ?_ _) | (with_reducible refine Below.drew ?_) | (with_reducible refine bdn ?_ _) | (with_reducible refine Below.setCell ?_ ?_ _) | go_size))) hb (by go_size); clear hb))
  refine Mild.region_mild 8 [] (Mild.Cls w.heap.size w [(⟨w.heap.size, 0, none⟩, .int .i64 xa), (⟨w.heap.size, 1, none⟩, .int .u32 xb), (⟨w.heap.size, 2, none⟩, .int .u16 xc), (⟨w.heap.size + 1, 0, none⟩, .int .i64 ya), (⟨w.heap.size + 1, 1, none⟩, .int .u32 yb), (⟨w.heap.size + 1, 2, none⟩, .int .u16 yc), (⟨w.heap.size + 2, 0, none⟩, .int .i64 n0), (⟨w.heap.size + 2, 1, none⟩, .int .i64 n1), (⟨w.heap.size + 2, 2, none⟩, .int .i64 n2)]) (by kernel_rfl) 258 (by kernel_rfl) rfl (by simp) Mild.Cls.closed ?h0 (by simp) ?H
  case h0 => exact ⟨by (repeat' (first | (with_reducible exact Below.refl _ _) | (with_reducible assumption) | (with_reducible refine Below.alloc ?_ ?_ _) | (with_reducible refine Below.drew ?_) | (with_reducible refine bdn ?_ _) | (with_reducible refine Below.setCell ?_ ?_ _) | go_size)), by omega, by simp [*, go_sem]⟩
  apply Exists.intro
  refine ⟨?HW, ?HT⟩
  case HW =>
    intro W hW
    have hWc := hW.cells; simp only [List.forall_mem_cons, List.not_mem_nil, false_imp_iff, implies_true, and_true] at hWc; obtain ⟨g0, g1, g2, g3, g4, g5, g6, g7, g8⟩ := hWc
    clear hW
    simp only [List.take_succ_cons, List.take_zero]
    repeat (apply Mild.walkM_q rfl; (go_wp2_with (first | (go_at_call 17; (with_reducible refine (span_any xa xb xc _ hx.a1 hx.a2 hx.b1 hx.b2 hx.c1 hx.c2).mono ?_); rintro e w1 ⟨rfl, hb⟩) | (go_at_call 17; (with_reducible refine (span_any ya yb yc _ hy.a1 hy.a2 hy.b1 hy.b2 hy.c1 hy.c2).mono ?_); rintro e w1 ⟨rfl, hb⟩) | (go_at_call 11; (with_reducible refine (small_any xa xb xc _ hx.a1 hx.a2 hx.b1 hx.b2 hx.c1 hx.c2).mono ?_); rintro e w1 ⟨rfl, hb⟩) | (go_at_call 11; (with_reducible refine (small_any ya yb yc _ hy.a1 hy.a2 hy.b1 hy.b2 hy.c1 hy.c2).mono ?_); rintro e w1 ⟨rfl, hb⟩))); (first | refine ⟨rfl, rfl, Below.refl _ _, ?_⟩ | refine ⟨rfl, rfl, hb, ?_⟩))
    exact Mild.walkM_end rfl
  case HT =>
    intro F w2 hC u1 u2
    clear u1 u2
    simp only [List.drop_succ_cons, List.drop_zero, Mild.putAll, List.foldl_cons, List.foldl_nil, Mild.ptrTo, Act.put, List.setIfInBounds_toArray, List.set_cons_zero, List.set_cons_succ]
    clear F
    have hB2 : Below w.heap.size w w2 := hC.below
    have b2 := hC.big
    have hWc := hC.cells; simp only [List.forall_mem_cons, List.not_mem_nil, false_imp_iff, implies_true, and_true] at hWc; obtain ⟨g0, g1, g2, g3, g4, g5, g6, g7, g8⟩ := hWc
    clear hC hB g0 g1 g2 g3 g4 g5 c0 f0 c1 f1 z0 z1 z2 c2 f2 hz w1
    have V0 : MrV (spanM xa xb xc) := ⟨span_vld _ _ _, (span_bd xa xb xc).2.2.2⟩
    have V1 : MrV (spanM ya yb yc) := ⟨span_vld _ _ _, (span_bd ya yb yc).2.2.2⟩
    have V2 : MrV (smallM xa xb xc) := ⟨small_vld _ _ _, by have := (small_bd xa xb xc).2.2.2; omega⟩
    have V3 : MrV (smallM ya yb yc) := ⟨small_vld _ _ _, by have := (small_bd ya yb yc).2.2.2; omega⟩
    generalize spanM xa xb xc = p at *
    generalize spanM ya yb yc = q at *
    generalize smallM xa xb xc = r at *
    generalize smallM ya yb yc = s at *
    have ps := V0.st; have pz := V0.v.st0
    have tt1 := Int.lt_tmod_of_pos n2 (b := 3) (by omega)
    have tt2 := Int.tmod_lt_of_pos n2 (b := 3) (by omega)
    go_upto_region 5 with fail
    have HC : Hid (MrC w w2.heap.size (w.heap.size + 2) p q r s n0 n1 n2 (w2.alloc (.cells #[.int .i64 p.lo, .int .i64 p.hi, .int .i64 p.st, .int .i64 q.lo, .int .i64 q.hi, .int .i64 q.st, .int .i64 r.lo, .int .i64 r.hi, .int .i64 r.st, .int .i64 s.lo, .int .i64 s.hi, .int .i64 s.st] 28))) := by
      have hb := below_new w2 (.cells #[.int .i64 p.lo, .int .i64 p.hi, .int .i64 p.st, .int .i64 q.lo, .int .i64 q.hi, .int .i64 q.st, .int .i64 r.lo, .int .i64 r.hi, .int .i64 r.st, .int .i64 s.lo, .int .i64 s.hi, .int .i64 s.st] 28)
      have hl : Is12 (w2.alloc (.cells #[.int .i64 p.lo, .int .i64 p.hi, .int .i64 p.st, .int .i64 q.lo, .int .i64 q.hi, .int .i64 q.st, .int .i64 r.lo, .int .i64 r.hi, .int .i64 r.st, .int .i64 s.lo, .int .i64 s.hi, .int .i64 s.st] 28)) w2.heap.size p q r s := ⟨by simp, by simp, by simp, by simp, by simp, by simp, by simp, by simp, by simp, by simp, by simp, by simp⟩
      exact Lib.hid ⟨hB2.trans (hb.mono b2), Nat.le_trans b2 hb.size, hl, (hb.cell (World.block_lt_of_cell? _ _ g6)).trans g6, (hb.cell (World.block_lt_of_cell? _ _ g7)).trans g7, (hb.cell (World.block_lt_of_cell? _ _ g8)).trans g8⟩
    generalize w2.alloc _ = w3 at *
    generalize w2.heap.size = L at *
    clear g6 g7 g8 hB2 b2 w2
    have g0 := HC.out.f0; have g1 := HC.out.f1; have g2 := HC.out.f2
    go_wp2_with fail
    have HS : Hid (MrS (MrC w L (w.heap.size + 2) p q r s n0 n1 n2) w3.heap.size ⟨n0, n1, n2⟩ (w3.alloc (.cells #[.int .i64 n0, .int .i64 n1, .int .i64 n2] 28))) := Lib.hid ⟨MrC.step _ _ HC.out (below_new _ _), is3_new w3 ⟨n0, n1, n2⟩⟩
    clear HC g0 g1 g2
    generalize w3.alloc _ = w4 at *
    generalize w3.heap.size = B at *
    clear w3
    refine Mild.region_mild 18 [⟨17, 10, zobj⟩] (MrS (MrC w L (w.heap.size + 2) p q r s n0 n1 n2) B ⟨n0, n1, n2⟩) (by kernel_rfl) 258 (by kernel_rfl) rfl (by simp) (MrS.step MrC.step) HS.out ?M6 ?H6
    case M6 => simp; exact mk28 _ _ _ _ _
    apply Exists.intro
    refine ⟨?HW6, ?HT6⟩
    case HW6 =>
      intro W hW
      have g0 := hW.c.fl.a0; have g1 := hW.c.fl.a1; have g2 := hW.c.fl.a2; have p2 := hW.c.f2
      clear hW
      simp only [List.take_succ_cons, List.take_zero]
      repeat (apply Mild.walkM_q rfl; (go_wp2_with fail); (first | refine ⟨rfl, rfl, Below.refl _ _, ?_⟩ | refine ⟨rfl, rfl, hb, ?_⟩))
      repeat apply Mild.walkM_m rfl
      exact Mild.walkM_end rfl
    case HT6 =>
      intro F w6 hC hheld hinj
      obtain ⟨hX1, hX⟩ := hheld ⟨17, 10, zobj⟩ (by simp)
      clear hheld hinj
      simp only [List.drop_succ_cons, List.drop_zero, Mild.putAll, List.foldl_cons, List.foldl_nil, Mild.ptrTo, Act.put, List.setIfInBounds_toArray, List.set_cons_zero, List.set_cons_succ]
      dsimp only at hX1 hX
      generalize F 17 = X at *
      clear F
      have lB := HS.out.s.lt
      have lL := HS.out.c.fl.lt
      have lN := World.block_lt_of_cell? _ _ HS.out.c.f0
      have lw := HS.out.c.big
      dsimp only at lN
      clear HS
      refine tail28 ⟨p.lo, p.hi, p.st + n2.tmod 3⟩ X hX rfl rfl ?_
      intro w7 htc hb
      have HS : Hid (SumB (MrC w L (w.heap.size + 2) p q r s n0 n1 n2) B X ⟨n0, n1, n2⟩ ⟨p.lo, p.hi, p.st + n2.tmod 3⟩ w7) := Lib.hid ⟨hC.c.touch (by omega) (by omega) (by omega) htc, is3_touch hC.s htc (by omega), is3_of hb⟩
      clear hC hX hX1 lB htc hb lL lN lw
      go_upto_region 7 with fail
      rename_i K1 hK1 K2 hK2
      have HK : ∀ a w, Met (Code.wp Try.prog matchRest _) a w → K1 a w := fun a w h => hK1 a w h
      clear hK1
      refine match7_any w L (w.heap.size + 2) p q r s n0 n1 n2 B X ⟨n0, n1, n2⟩ ⟨p.lo, p.hi, p.st + n2.tmod 3⟩ h21 _ _ _ _ _ _ _ _ _ _ _ _ _ _ _ _ _ _ _ _ _ _ _ _ _ _ _ _ _ _ _ _ _ _ _ _ _ _ _ _ _ _ _ _ _ _ _ _ _ _ _ _ _ _ _ _ _ _ _ _ _ _ _ _ _ _ _ _ _ _ _ _ _ _ _ _ _ _ _ _ _ _ _ _ _ _ _ _ _ _ _ _ _ _ _ _ _ _ _ _ _ _ _ _ _ _ _ _ _ _ _ _ _ _ _ _ _ _ _ _ _ _ _ _ _ _ _ _ _ _ _ _ _ _ _ _ _ _ _ _ _ _ _ _ _ _ _ _ _ _ _ _ _ _ _ _ _ _ _ _ _ _ _ _ _ _ _ _ _ _ _ _ _ _ _ _ _ _ _ _ _ _ _ _ _ _ _ _ _ _ _ _ _ _ _ _ _ _ _ _ _ _ _ _ _ _ _ _ _ _ _ _ _ _ _ _ _ _ _ _ _ _ _ _ _ _ _ _ _ _ _ _ _ _ _ _ _ _ _ _ _ _ _ _ _ _ _ _ _ _ _ _ _ _ _ HS.out _ ?_
      clear HS
      intro y51 y52 y53 y54 y55 y56 y57 y58 y59 y60 y61 y62 y63 y64 y65 y66 y67 y68 y69 y70 y71 y72 y73 y74 y75 y76 y77 y78 y79 y80 y81 y82 y83 y84 y85 y86 y87 y88 y89 y90 y91 y92 y93 y94 y95 y96 y97 y98 y99 y100 y101 y102 y103 y104 y105 y106 y107 y108 y109 y110 y111 y112 y113 y114 y115 W1 HS
      have HC : Hid ((MrC w L (w.heap.size + 2) p q r s n0 n1 n2) W1) := Lib.hid HS.out.sl
      clear HS
      go_wp2_with fail
      unfold Met
      exact match_rest_any w L (w.heap.size + 2) p q r s n0 n1 n2 V0 V1 V2 V3 h10 h11 _ _ _ _ _ _ _ _ _ _ _ _ _ _ _ _ _ _ _ _ _ _ _ _ _ _ _ _ _ _ _ _ _ _ _ _ _ _ _ _ _ _ _ _ _ _ _ _ _ _ _ _ _ _ _ _ _ _ _ _ _ _ _ _ _ _ _ _ _ _ _ _ _ _ _ _ _ _ _ _ _ _ _ _ _ _ _ _ _ _ _ _ _ _ _ _ _ _ _ _ _ _ _ _ _ _ _ _ _ _ _ _ _ _ _ _ _ _ _ _ _ _ _ _ _ _ _ _ _ _ _ _ _ _ _ _ _ _ _ _ _ _ _ _ _ _ _ _ _ _ _ _ _ _ _ _ _ _ _ _ _ _ _ _ _ _ _ _ _ _ _ _ _ _ _ _ _ _ _ _ _ _ _ _ _ _ _ _ _ _ _ _ _ _ _ _ _ _ _ _ _ _ _ _ _ _ _ _ _ _ _ _ _ _ _ _ _ _ _ _ _ _ _ _ _ _ _ _ _ _ _ _ _ _ _ _ _ _ _ _ _ _ _ _ _ _ _ _ _ _ _ _ _ _ _ _ HC.out
end Go.Proofs.Ytnihhchgnkfcgaa

