/- SpanLeast: the statement that appends a great span, and what the memory holds meanwhile, as a text of its own. -/
import Derived.Test.YtnihhchgnkfcgaaWsa
import Derived.OwnWalk
-- USEBDN
set_option linter.unusedSimpArgs false
set_option linter.unusedVariables false
namespace Go.Proofs.Ytnihhchgnkfcgaa
open Go.ChangeShapes Go.WideShapes Go.ChangeAt Go.RowKit
/-- The two spans, the third description's number, the four results, the four answers. -/
structure LeA (w : World) (A D Z Rb Lb : Nat) (s t r0 r1 r2 r3 : Sp) (zn : Int) (b0 b1 b2 b3 : Bool) (W : World) : Prop where
  below : Below w.heap.size w W
  big : w.heap.size ≤ W.heap.size
  fa : Is3 W A s
  fd : Is3 W D t
  fz : W.cell? ⟨Z, 2, none⟩ = some (.int .u16 zn)
  fr : Is12 W Rb r0 r1 r2 r3
  fl : W.heap[Lb]? = some (.cells #[.bool b0, .bool b1, .bool b2, .bool b3] 4)
/-- Blocks in their order. -/
structure LeO (w : World) (A D Z Rb Lb : Nat) : Prop where
  w : w.heap.size ≤ Lb
  a : A < Lb
  d : D < Lb
  z : Z < Lb
  r : Rb < Lb
section
variable {w : World} {A D Z Rb Lb : Nat} {s t r0 r1 r2 r3 : Sp} {zn : Int} {b0 b1 b2 b3 : Bool} {W W' : World}
theorem LeA.step : ∀ W W', LeA w A D Z Rb Lb s t r0 r1 r2 r3 zn b0 b1 b2 b3 W → Below W.heap.size W W' → LeA w A D Z Rb Lb s t r0 r1 r2 r3 zn b0 b1 b2 b3 W' :=
  fun _ _ h hb => ⟨h.below.trans (hb.mono h.big), Nat.le_trans h.big hb.size, h.fa.step hb, h.fd.step hb, by rw [hb.cell (World.block_lt_of_cell? _ _ h.fz)]; exact h.fz, h.fr.step hb, by rw [hb.block Lb (Mild.lt_of_block h.fl)]; exact h.fl⟩
theorem is3_same {W W' : World} {A : Nat} {s : Sp} (h : Is3 W A s) (e : ∀ o, W'.cell? ⟨A, o, none⟩ = W.cell? ⟨A, o, none⟩) : Is3 W' A s :=
  ⟨(e 0).trans h.lo, (e 1).trans h.hi, (e 2).trans h.st⟩
theorem LeA.put (n : LeO w A D Z Rb Lb) (h : LeA w A D Z Rb Lb s t r0 r1 r2 r3 zn b0 b1 b2 b3 W) (i : Nat) (x c0 c1 c2 c3 : Bool) (e : #[Value.bool b0, .bool b1, .bool b2, .bool b3].setIfInBounds i (.bool x) = #[Value.bool c0, .bool c1, .bool c2, .bool c3]) :
    LeA w A D Z Rb Lb s t r0 r1 r2 r3 zn c0 c1 c2 c3 (W.setCell ⟨Lb, i, none⟩ (.bool x)) :=
  have ht := touch_setCell W Lb i (.bool x)
  ⟨h.below.setCell n.w _, by simp [World.setCell]; exact h.big, is3_touch h.fa ht (by have := n.a; omega), is3_touch h.fd ht (by have := n.d; omega), (cell_same (ht.block Z (by have := n.z; omega)) 2).trans h.fz, h.fr.touch ht (by have := n.r; omega), by
    rw [Joins.block_setCell (i := i) h.fl (.bool x), e]⟩
/-- An append to a slice of the call's own, that lies behind all of these. -/
theorem LeA.grown (n : LeO w A D Z Rb Lb) (h : LeA w A D Z Rb Lb s t r0 r1 r2 r3 zn b0 b1 b2 b3 W) {row : Option Nat} (hg : W.grownBy W' row) (hr : ∀ g, row = some g → Lb < g) :
    LeA w A D Z Rb Lb s t r0 r1 r2 r3 zn b0 b1 b2 b3 W' := by
  have hl := Mild.lt_of_block h.fl
  have e : ∀ b, b ≤ Lb → W'.heap[b]? = W.heap[b]? := fun b hb => hg.block b (by omega) (fun e => by have := hr b e.symm; omega)
  have n1 := n.a; have n2 := n.d; have n3 := n.z; have n4 := n.r; have n5 := n.w
  exact ⟨⟨hg.os.trans h.below.os, hg.tape.trans h.below.tape, hg.output.trans h.below.output, Nat.le_trans h.below.size hg.size, fun k hk => (e k (by omega)).trans (h.below.block k hk)⟩,
    Nat.le_trans h.big hg.size, is3_same h.fa (cell_same (e A (by omega))), is3_same h.fd (cell_same (e D (by omega))), (cell_same (e Z (by omega)) 2).trans h.fz, h.fr.same (cell_same (e Rb (by omega))), (e Lb (by omega)).trans h.fl⟩
end
theorem grown_alloc {W W' : World} {o : Obj} {row : Option Nat} (h : (W.alloc o).grownBy W' row) : W.grownBy W' row :=
  have hs : (W.alloc o).heap.size = W.heap.size + 1 := by simp
  ⟨h.os, h.tape, h.output, by have := h.size; omega, fun k hk hne => (h.block k (by omega) hne).trans (by unfold World.alloc; exact Array.getElem?_push_lt hk ▸ (by simp [Array.getElem?_push, Nat.ne_of_lt hk]))⟩
abbrev v3 (s : Sp) : List Value := [.int .i64 s.lo, .int .i64 s.hi, .int .i64 s.st]
theorem own_block {W : World} {base e size n : Nat} {v : Value} {xs : List Value} (h : W.ownsRow base e size v n xs) : ∀ g, v.ownBlock = some g → base ≤ g := by
  intro g hg
  obtain ⟨_, ⟨rfl, _⟩ | ⟨g', cap, cur, rfl, h1, _⟩⟩ := h
  · cases hg
  · simp [Value.ownBlock] at hg
    omega
noncomputable def least14 : Code := navC [1, 1, 1, 1, 1, 1, 1, 1, 0, 1, 1, 1, 1, 0, 1, 1, 1] (Try.f9.body.getD .skip)
set_option maxRecDepth 100000 in
set_option maxHeartbeats 4000000 in
theorem least14_any (step lo : Int) (v : Value) (base n : Nat) (xs : List Value) (x0 x1 x2 x3 x4 x5 x6 x7 x8 x9 x11 x12 x14 x16 x17 x18 x19 x20 x21 x22 x23 x24 x25 x26 x27 x28 x29 x30 x31 x32 x33 x34 x35 x36 x37 x38 x39 x40 x41 x42 x43 x44 x45 x46 x47 x48 x49 x50 x51 x52 x53 x54 x55 x56 x57 x58 x59 x60 x61 x62 x63 x64 x65 x66 x67 x68 x69 x70 x71 x72 x73 x74 x75 x76 x77 x78 x79 x80 x81 x82 x83 x84 x85 x86 x87 x88 x89 x90 x91 x92 x93 x94 x95 x96 x97 x98 x99 x100 x101 x102 x103 x104 x105 x106 x107 x108 x109 x110 x111 x112 x113 x114 x115 x116 x117 x118 x119 x120 x121 x122 x123 x124 x125 x126 x127 x128 x129 x130 x131 x132 x133 x134 x135 x136 x137 x138 x139 x140 x141 x142 x143 x144 x145 x146 x147 x148 x149 x150 x151 x152 x153 x154 x155 x156 x157 x158 x159 x160 x161 x162 x163 x164 x165 x166 x167 x168 x169 x170 x171 x172 x173 x174 x175 x176 x177 x178 x179 x180 x181 x182 x183 x184 x185 x186 x187 x188 x189 x190 x191 x192 x193 x194 x195 x196 x197 x198 x199 x200 x201 x202 x203 x204 x205 x206 x207 x208 x209 x210 x211 x212 x213 x214 x215 x216 x217 x218 x219 x220 x221 x222 x223 x224 x225 x226 x227 x228 x229 x230 x231 x232 x233 x234 x235 x236 x237 x238 x239 x240 x241 x242 x243 x244 x245 x246 x247 x248 x249 x250 x251 x252 x253 x254 x255 x256 x257 x258 x259 x260 x261 x262 x263 x264 x265 x266 x267 : Value) (W : World) (p1 : 1 ≤ step) (p2 : step ≤ 12) (l1 : -200000 ≤ lo) (l2 : lo ≤ 200000) (hn : n ≤ 10) (hown : W.ownsRow base 28 3 v n xs) (hbase : base ≤ W.heap.size) (Q0 : Exit → Act → World → Prop)
    (hQ : ∀ (y70 y71 y72 y73 y74 y75 y76 y77 y78 y79 v' : Value) (W' : World), Hid (W'.ownsRow base 28 3 v' (n + 1) (xs ++ [.int .i64 lo, .int .i64 (lo + step * 4000000), .int .i64 step]) ∧ W.grownBy W' v.ownBlock) → Q0 .normal ⟨List.toArray (x0 :: x1 :: x2 :: x3 :: x4 :: x5 :: x6 :: x7 :: x8 :: x9 :: .int .i64 step :: x11 :: x12 :: v' :: x14 :: .int .i64 lo :: x16 :: x17 :: x18 :: x19 :: x20 :: x21 :: x22 :: x23 :: x24 :: x25 :: x26 :: x27 :: x28 :: x29 :: x30 :: x31 :: x32 :: x33 :: x34 :: x35 :: x36 :: x37 :: x38 :: x39 :: x40 :: x41 :: x42 :: x43 :: x44 :: x45 :: x46 :: x47 :: x48 :: x49 :: x50 :: x51 :: x52 :: x53 :: x54 :: x55 :: x56 :: x57 :: x58 :: x59 :: x60 :: x61 :: x62 :: x63 :: x64 :: x65 :: x66 :: x67 :: x68 :: x69 :: y70 :: y71 :: y72 :: y73 :: y74 :: y75 :: y76 :: y77 :: y78 :: y79 :: x80 :: x81 :: x82 :: x83 :: x84 :: x85 :: x86 :: x87 :: x88 :: x89 :: x90 :: x91 :: x92 :: x93 :: x94 :: x95 :: x96 :: x97 :: x98 :: x99 :: x100 :: x101 :: x102 :: x103 :: x104 :: x105 :: x106 :: x107 :: x108 :: x109 :: x110 :: x111 :: x112 :: x113 :: x114 :: x115 :: x116 :: x117 :: x118 :: x119 :: x120 :: x121 :: x122 :: x123 :: x124 :: x125 :: x126 :: x127 :: x128 :: x129 :: x130 :: x131 :: x132 :: x133 :: x134 :: x135 :: x136 :: x137 :: x138 :: x139 :: x140 :: x141 :: x142 :: x143 :: x144 :: x145 :: x146 :: x147 :: x148 :: x149 :: x150 :: x151 :: x152 :: x153 :: x154 :: x155 :: x156 :: x157 :: x158 :: x159 :: x160 :: x161 :: x162 :: x163 :: x164 :: x165 :: x166 :: x167 :: x168 :: x169 :: x170 :: x171 :: x172 :: x173 :: x174 :: x175 :: x176 :: x177 :: x178 :: x179 :: x180 :: x181 :: x182 :: x183 :: x184 :: x185 :: x186 :: x187 :: x188 :: x189 :: x190 :: x191 :: x192 :: x193 :: x194 :: x195 :: x196 :: x197 :: x198 :: x199 :: x200 :: x201 :: x202 :: x203 :: x204 :: x205 :: x206 :: x207 :: x208 :: x209 :: x210 :: x211 :: x212 :: x213 :: x214 :: x215 :: x216 :: x217 :: x218 :: x219 :: x220 :: x221 :: x222 :: x223 :: x224 :: x225 :: x226 :: x227 :: x228 :: x229 :: x230 :: x231 :: x232 :: x233 :: x234 :: x235 :: x236 :: x237 :: x238 :: x239 :: x240 :: x241 :: x242 :: x243 :: x244 :: x245 :: x246 :: x247 :: x248 :: x249 :: x250 :: x251 :: x252 :: x253 :: x254 :: x255 :: x256 :: x257 :: x258 :: x259 :: x260 :: x261 :: x262 :: x263 :: x264 :: x265 :: x266 :: x267 :: []), []⟩ W')
    : Code.wp Try.prog least14 Q0 ⟨List.toArray (x0 :: x1 :: x2 :: x3 :: x4 :: x5 :: x6 :: x7 :: x8 :: x9 :: .int .i64 step :: x11 :: x12 :: v :: x14 :: .int .i64 lo :: x16 :: x17 :: x18 :: x19 :: x20 :: x21 :: x22 :: x23 :: x24 :: x25 :: x26 :: x27 :: x28 :: x29 :: x30 :: x31 :: x32 :: x33 :: x34 :: x35 :: x36 :: x37 :: x38 :: x39 :: x40 :: x41 :: x42 :: x43 :: x44 :: x45 :: x46 :: x47 :: x48 :: x49 :: x50 :: x51 :: x52 :: x53 :: x54 :: x55 :: x56 :: x57 :: x58 :: x59 :: x60 :: x61 :: x62 :: x63 :: x64 :: x65 :: x66 :: x67 :: x68 :: x69 :: x70 :: x71 :: x72 :: x73 :: x74 :: x75 :: x76 :: x77 :: x78 :: x79 :: x80 :: x81 :: x82 :: x83 :: x84 :: x85 :: x86 :: x87 :: x88 :: x89 :: x90 :: x91 :: x92 :: x93 :: x94 :: x95 :: x96 :: x97 :: x98 :: x99 :: x100 :: x101 :: x102 :: x103 :: x104 :: x105 :: x106 :: x107 :: x108 :: x109 :: x110 :: x111 :: x112 :: x113 :: x114 :: x115 :: x116 :: x117 :: x118 :: x119 :: x120 :: x121 :: x122 :: x123 :: x124 :: x125 :: x126 :: x127 :: x128 :: x129 :: x130 :: x131 :: x132 :: x133 :: x134 :: x135 :: x136 :: x137 :: x138 :: x139 :: x140 :: x141 :: x142 :: x143 :: x144 :: x145 :: x146 :: x147 :: x148 :: x149 :: x150 :: x151 :: x152 :: x153 :: x154 :: x155 :: x156 :: x157 :: x158 :: x159 :: x160 :: x161 :: x162 :: x163 :: x164 :: x165 :: x166 :: x167 :: x168 :: x169 :: x170 :: x171 :: x172 :: x173 :: x174 :: x175 :: x176 :: x177 :: x178 :: x179 :: x180 :: x181 :: x182 :: x183 :: x184 :: x185 :: x186 :: x187 :: x188 :: x189 :: x190 :: x191 :: x192 :: x193 :: x194 :: x195 :: x196 :: x197 :: x198 :: x199 :: x200 :: x201 :: x202 :: x203 :: x204 :: x205 :: x206 :: x207 :: x208 :: x209 :: x210 :: x211 :: x212 :: x213 :: x214 :: x215 :: x216 :: x217 :: x218 :: x219 :: x220 :: x221 :: x222 :: x223 :: x224 :: x225 :: x226 :: x227 :: x228 :: x229 :: x230 :: x231 :: x232 :: x233 :: x234 :: x235 :: x236 :: x237 :: x238 :: x239 :: x240 :: x241 :: x242 :: x243 :: x244 :: x245 :: x246 :: x247 :: x248 :: x249 :: x250 :: x251 :: x252 :: x253 :: x254 :: x255 :: x256 :: x257 :: x258 :: x259 :: x260 :: x261 :: x262 :: x263 :: x264 :: x265 :: x266 :: x267 :: []), []⟩ W := by
  conv => arg 2; whnf
  have HQ := Lib.hid hQ; clear hQ
  have HO := Lib.hid hown; clear hown
  obtain ⟨i0, hi, hz0, hz1, hz2⟩ := info_parts (show (Try.prog.info? 28).map (fun i => (i.zero, i.size, i.bytes)) = some (some (.agg #[.int .i64 0, .int .i64 0, .int .i64 0]), 3, 24) by kernel_rfl)
  have HI := Lib.hid hi; have HZ0 := Lib.hid hz0; have HZ1 := Lib.hid hz1; have HZ2 := Lib.hid hz2
  clear hi hz0 hz1 hz2
  go_wp2_with (at_builtin; refine wpList_append_own _ rfl _ _ 52 rfl base 28 i0 (.agg #[.int .i64 0, .int .i64 0, .int .i64 0]) 3 24 Try.underlying52 HI.out HZ0.out HZ1.out HZ2.out rfl (by decide) v n xs rfl (HO.out.alloc _) ⟨W.heap.size, 0, none⟩ 1 1 [.int .i64 lo, .int .i64 (lo + step * 4000000), .int .i64 step] rfl rfl ?c1 ?c2 ?c3 ?c4 ?c5 ?_)
  case c1 =>
    intro j u h
    rcases j with _ | _ | _ | j
    · simp at h; subst h; simp [Addr.add]
    · simp at h; subst h; simp [Addr.add]
    · simp at h; subst h; simp [Addr.add]
    · simp at h
  case c2 => intro u hu; simp only [List.mem_cons, List.not_mem_nil, or_false] at hu; rcases hu with rfl | rfl | rfl <;> rfl
  case c3 => unfold maxLen; omega
  case c4 => omega
  case c5 => simp; omega
  intro v' W' h1 h2 _
  have HF := Lib.hid (And.intro h1 (grown_alloc h2))
  clear h1 h2
  go_wp2_with fail
  apply HQ.out
  exact HF
end Go.Proofs.Ytnihhchgnkfcgaa

