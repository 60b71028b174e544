/- SpanSums: the test of the elements (region 11), as a text of its own. -/
import Derived.Test.YtnihhchgnkfcgaaClsb
import Derived.Test.YtnihhchgnkfcgaaPi
import Derived.Test.YtnihhchgnkfcgaaNav
-- USEBDN
set_option linter.unusedSimpArgs false
set_option linter.unusedVariables false
namespace Go.Proofs.Ytnihhchgnkfcgaa
open Go.ChangeShapes Go.WideShapes Go.ChangeAt Go.RowKit
/-- The list of two pairs of spans, and the three numbers. -/
abbrev SL (w : World) (L N : Nat) (p q r s : Sp) (n0 n1 n2 : Int) : World → Prop := Mild.Cls w.heap.size w [(⟨L, 0, none⟩, .int .i64 p.lo), (⟨L, 1, none⟩, .int .i64 p.hi), (⟨L, 2, none⟩, .int .i64 p.st), (⟨L, 3, none⟩, .int .i64 q.lo), (⟨L, 4, none⟩, .int .i64 q.hi), (⟨L, 5, none⟩, .int .i64 q.st), (⟨L, 6, none⟩, .int .i64 r.lo), (⟨L, 7, none⟩, .int .i64 r.hi), (⟨L, 8, none⟩, .int .i64 r.st), (⟨L, 9, none⟩, .int .i64 s.lo), (⟨L, 10, none⟩, .int .i64 s.hi), (⟨L, 11, none⟩, .int .i64 s.st), (⟨N, 0, none⟩, .int .u16 n0), (⟨N, 1, none⟩, .int .u16 n1), (⟨N, 2, none⟩, .int .u16 n2)]
/-- A span with an error lies in a block. -/
structure Is43 (W : World) (A : Nat) (p : Spe) : Prop where
  s : Is3 W A p.s
  e : W.cell? ⟨A, 3, none⟩ = some (.int .i64 p.e)
theorem Is43.step {W W' : World} {A : Nat} {p : Spe} (h : Is43 W A p) (hb : Below W.heap.size W W') : Is43 W' A p := ⟨h.s.step hb, (hb.cell h.s.lt).trans h.e⟩
/-- What the memory holds in a round behind the four results. -/
structure SumC (w : World) (C : World → Prop) (X Y S T U V : Nat) (P Q : Sp) (p q r u : Spe) (W : World) : Prop where
  sl : C W
  fx : Is3 W X P
  fy : Is3 W Y Q
  fs : Is43 W S p
  ft : Is43 W T q
  fu : Is43 W U r
  fv : Is43 W V u
theorem SumC.step {w : World} {C : World → Prop} {X Y S T U V : Nat} {P Q : Sp} {p q r u : Spe} {W W' : World} (hC : ∀ w w', C w → Below w.heap.size w w' → C w') (h : SumC w C X Y S T U V P Q p q r u W) (hb : Below W.heap.size W W') : SumC w C X Y S T U V P Q p q r u W' :=
  ⟨hC _ _ h.sl hb, h.fx.step hb, h.fy.step hb, h.fs.step hb, h.ft.step hb, h.fu.step hb, h.fv.step hb⟩
/-- A result that has no error is a valid span that holds z. -/
def Good (p : Spe) (z : Int) : Prop := (p.e = 0 ∧ Vld p.s ∧ hasB p.s z = true ∧ -9223372036854775808 ≤ z ∧ z ≤ 9223372036854775807) ∨ p.e = 2
noncomputable def sums11 : Code := navC [1, 1, 1, 1, 0, 1, 1, 1, 1, 0, 1, 1, 1, 1, 0, 0] (Try.f8.body.getD .skip)
set_option maxRecDepth 100000 in
def SR0 (w : World) (C : World → Prop) (X Y S T U V : Nat) (P Q : Sp) (p q r u : Spe) (i k a b : Int) (x0 x1 x2 x3 x4 x5 x6 x7 x8 x19 x20 x21 x22 x23 x24 x25 x26 x27 x28 x29 x30 x31 x32 x33 x34 x35 x36 x37 x38 x39 x40 x41 x42 x43 x44 x45 x46 x47 x48 x49 x50 x51 x52 x53 x54 x55 x56 x57 x58 x59 x60 x61 x62 x63 x64 x65 x66 x67 x68 x69 x70 x71 x91 x92 x93 x94 x95 x96 x97 x98 x99 x100 x101 x102 x103 x104 x105 x106 x107 x108 x109 x110 x111 x112 x113 x114 x115 x116 x117 x118 x119 x120 x121 x122 x123 x124 x125 x126 x127 x128 x129 x130 x131 x132 x133 x134 x135 x136 x137 x138 x139 x140 x141 x142 x143 x144 x145 x146 x147 x148 x149 x150 x151 x152 x153 x154 x155 x156 x157 x158 x159 x160 x161 x162 x163 x164 x165 x166 x167 x168 x169 x170 x171 x172 x173 x174 x175 x176 x177 x178 x179 x180 x181 x182 x183 x184 x185 x186 x187 x188 x189 x190 x191 x192 x193 x194 x195 x196 x197 x198 x199 x200 x201 x202 x203 x204 : Value) (A : Act) (W : World) : Prop :=
  (∃ x72 x73 x74 x75 x76 x77 x78 x79 x80 x81 x82 x83 x84 x85 x86 x87 x88 x89 : Value, A = ⟨List.toArray (x0 :: x1 :: x2 :: x3 :: x4 :: x5 :: x6 :: x7 :: x8 :: .int .i64 i :: .pointer (some ⟨X, 0, none⟩) :: .pointer (some ⟨Y, 0, none⟩) :: .int .i64 k :: .int .i64 a :: .int .i64 b :: .pointer (some ⟨S, 0, none⟩) :: .pointer (some ⟨T, 0, none⟩) :: .pointer (some ⟨U, 0, none⟩) :: .pointer (some ⟨V, 0, none⟩) :: x19 :: x20 :: x21 :: x22 :: x23 :: x24 :: x25 :: x26 :: x27 :: x28 :: x29 :: x30 :: x31 :: x32 :: x33 :: x34 :: x35 :: x36 :: x37 :: x38 :: x39 :: x40 :: x41 :: x42 :: x43 :: x44 :: x45 :: x46 :: x47 :: x48 :: x49 :: x50 :: x51 :: x52 :: x53 :: x54 :: x55 :: x56 :: x57 :: x58 :: x59 :: x60 :: x61 :: x62 :: x63 :: x64 :: x65 :: x66 :: x67 :: x68 :: x69 :: x70 :: x71 :: x72 :: x73 :: x74 :: x75 :: x76 :: x77 :: x78 :: x79 :: x80 :: x81 :: x82 :: x83 :: x84 :: x85 :: x86 :: x87 :: x88 :: x89 :: .bool false :: x91 :: x92 :: x93 :: x94 :: x95 :: x96 :: x97 :: x98 :: x99 :: x100 :: x101 :: x102 :: x103 :: x104 :: x105 :: x106 :: x107 :: x108 :: x109 :: x110 :: x111 :: x112 :: x113 :: x114 :: x115 :: x116 :: x117 :: x118 :: x119 :: x120 :: x121 :: x122 :: x123 :: x124 :: x125 :: x126 :: x127 :: x128 :: x129 :: x130 :: x131 :: x132 :: x133 :: x134 :: x135 :: x136 :: x137 :: x138 :: x139 :: x140 :: x141 :: x142 :: x143 :: x144 :: x145 :: x146 :: x147 :: x148 :: x149 :: x150 :: x151 :: x152 :: x153 :: x154 :: x155 :: x156 :: x157 :: x158 :: x159 :: x160 :: x161 :: x162 :: x163 :: x164 :: x165 :: x166 :: x167 :: x168 :: x169 :: x170 :: x171 :: x172 :: x173 :: x174 :: x175 :: x176 :: x177 :: x178 :: x179 :: x180 :: x181 :: x182 :: x183 :: x184 :: x185 :: x186 :: x187 :: x188 :: x189 :: x190 :: x191 :: x192 :: x193 :: x194 :: x195 :: x196 :: x197 :: x198 :: x199 :: x200 :: x201 :: x202 :: x203 :: x204 :: []), []⟩) ∧ SumC w C X Y S T U V P Q p q r u W
set_option maxRecDepth 100000 in
def SR1 (w : World) (C : World → Prop) (X Y S T U V : Nat) (P Q : Sp) (p q r u : Spe) (i k a b : Int) (x0 x1 x2 x3 x4 x5 x6 x7 x8 x19 x20 x21 x22 x23 x24 x25 x26 x27 x28 x29 x30 x31 x32 x33 x34 x35 x36 x37 x38 x39 x40 x41 x42 x43 x44 x45 x46 x47 x48 x49 x50 x51 x52 x53 x54 x55 x56 x57 x58 x59 x60 x61 x62 x63 x64 x65 x66 x67 x68 x69 x70 x71 x111 x112 x113 x114 x115 x116 x117 x118 x119 x120 x121 x122 x123 x124 x125 x126 x127 x128 x129 x130 x131 x132 x133 x134 x135 x136 x137 x138 x139 x140 x141 x142 x143 x144 x145 x146 x147 x148 x149 x150 x151 x152 x153 x154 x155 x156 x157 x158 x159 x160 x161 x162 x163 x164 x165 x166 x167 x168 x169 x170 x171 x172 x173 x174 x175 x176 x177 x178 x179 x180 x181 x182 x183 x184 x185 x186 x187 x188 x189 x190 x191 x192 x193 x194 x195 x196 x197 x198 x199 x200 x201 x202 x203 x204 : Value) (A : Act) (W : World) : Prop :=
  (∃ x72 x73 x74 x75 x76 x77 x78 x79 x80 x81 x82 x83 x84 x85 x86 x87 x88 x89 x90 x91 x92 x93 x94 x95 x96 x97 x98 x99 x100 x101 x102 x103 x104 x105 x106 x107 x108 x109 : Value, A = ⟨List.toArray (x0 :: x1 :: x2 :: x3 :: x4 :: x5 :: x6 :: x7 :: x8 :: .int .i64 i :: .pointer (some ⟨X, 0, none⟩) :: .pointer (some ⟨Y, 0, none⟩) :: .int .i64 k :: .int .i64 a :: .int .i64 b :: .pointer (some ⟨S, 0, none⟩) :: .pointer (some ⟨T, 0, none⟩) :: .pointer (some ⟨U, 0, none⟩) :: .pointer (some ⟨V, 0, none⟩) :: x19 :: x20 :: x21 :: x22 :: x23 :: x24 :: x25 :: x26 :: x27 :: x28 :: x29 :: x30 :: x31 :: x32 :: x33 :: x34 :: x35 :: x36 :: x37 :: x38 :: x39 :: x40 :: x41 :: x42 :: x43 :: x44 :: x45 :: x46 :: x47 :: x48 :: x49 :: x50 :: x51 :: x52 :: x53 :: x54 :: x55 :: x56 :: x57 :: x58 :: x59 :: x60 :: x61 :: x62 :: x63 :: x64 :: x65 :: x66 :: x67 :: x68 :: x69 :: x70 :: x71 :: x72 :: x73 :: x74 :: x75 :: x76 :: x77 :: x78 :: x79 :: x80 :: x81 :: x82 :: x83 :: x84 :: x85 :: x86 :: x87 :: x88 :: x89 :: x90 :: x91 :: x92 :: x93 :: x94 :: x95 :: x96 :: x97 :: x98 :: x99 :: x100 :: x101 :: x102 :: x103 :: x104 :: x105 :: x106 :: x107 :: x108 :: x109 :: .bool false :: x111 :: x112 :: x113 :: x114 :: x115 :: x116 :: x117 :: x118 :: x119 :: x120 :: x121 :: x122 :: x123 :: x124 :: x125 :: x126 :: x127 :: x128 :: x129 :: x130 :: x131 :: x132 :: x133 :: x134 :: x135 :: x136 :: x137 :: x138 :: x139 :: x140 :: x141 :: x142 :: x143 :: x144 :: x145 :: x146 :: x147 :: x148 :: x149 :: x150 :: x151 :: x152 :: x153 :: x154 :: x155 :: x156 :: x157 :: x158 :: x159 :: x160 :: x161 :: x162 :: x163 :: x164 :: x165 :: x166 :: x167 :: x168 :: x169 :: x170 :: x171 :: x172 :: x173 :: x174 :: x175 :: x176 :: x177 :: x178 :: x179 :: x180 :: x181 :: x182 :: x183 :: x184 :: x185 :: x186 :: x187 :: x188 :: x189 :: x190 :: x191 :: x192 :: x193 :: x194 :: x195 :: x196 :: x197 :: x198 :: x199 :: x200 :: x201 :: x202 :: x203 :: x204 :: []), []⟩) ∧ SumC w C X Y S T U V P Q p q r u W
set_option maxRecDepth 100000 in
def SR2 (w : World) (C : World → Prop) (X Y S T U V : Nat) (P Q : Sp) (p q r u : Spe) (i k a b : Int) (x0 x1 x2 x3 x4 x5 x6 x7 x8 x19 x20 x21 x22 x23 x24 x25 x26 x27 x28 x29 x30 x31 x32 x33 x34 x35 x36 x37 x38 x39 x40 x41 x42 x43 x44 x45 x46 x47 x48 x49 x50 x51 x52 x53 x54 x55 x56 x57 x58 x59 x60 x61 x62 x63 x64 x65 x66 x67 x68 x69 x70 x71 x131 x132 x133 x134 x135 x136 x137 x138 x139 x140 x141 x142 x143 x144 x145 x146 x147 x148 x149 x150 x151 x152 x153 x154 x155 x156 x157 x158 x159 x160 x161 x162 x163 x164 x165 x166 x167 x168 x169 x170 x171 x172 x173 x174 x175 x176 x177 x178 x179 x180 x181 x182 x183 x184 x185 x186 x187 x188 x189 x190 x191 x192 x193 x194 x195 x196 x197 x198 x199 x200 x201 x202 x203 x204 : Value) (A : Act) (W : World) : Prop :=
  (∃ x72 x73 x74 x75 x76 x77 x78 x79 x80 x81 x82 x83 x84 x85 x86 x87 x88 x89 x90 x91 x92 x93 x94 x95 x96 x97 x98 x99 x100 x101 x102 x103 x104 x105 x106 x107 x108 x109 x110 x111 x112 x113 x114 x115 x116 x117 x118 x119 x120 x121 x122 x123 x124 x125 x126 x127 x128 x129 : Value, A = ⟨List.toArray (x0 :: x1 :: x2 :: x3 :: x4 :: x5 :: x6 :: x7 :: x8 :: .int .i64 i :: .pointer (some ⟨X, 0, none⟩) :: .pointer (some ⟨Y, 0, none⟩) :: .int .i64 k :: .int .i64 a :: .int .i64 b :: .pointer (some ⟨S, 0, none⟩) :: .pointer (some ⟨T, 0, none⟩) :: .pointer (some ⟨U, 0, none⟩) :: .pointer (some ⟨V, 0, none⟩) :: x19 :: x20 :: x21 :: x22 :: x23 :: x24 :: x25 :: x26 :: x27 :: x28 :: x29 :: x30 :: x31 :: x32 :: x33 :: x34 :: x35 :: x36 :: x37 :: x38 :: x39 :: x40 :: x41 :: x42 :: x43 :: x44 :: x45 :: x46 :: x47 :: x48 :: x49 :: x50 :: x51 :: x52 :: x53 :: x54 :: x55 :: x56 :: x57 :: x58 :: x59 :: x60 :: x61 :: x62 :: x63 :: x64 :: x65 :: x66 :: x67 :: x68 :: x69 :: x70 :: x71 :: x72 :: x73 :: x74 :: x75 :: x76 :: x77 :: x78 :: x79 :: x80 :: x81 :: x82 :: x83 :: x84 :: x85 :: x86 :: x87 :: x88 :: x89 :: x90 :: x91 :: x92 :: x93 :: x94 :: x95 :: x96 :: x97 :: x98 :: x99 :: x100 :: x101 :: x102 :: x103 :: x104 :: x105 :: x106 :: x107 :: x108 :: x109 :: x110 :: x111 :: x112 :: x113 :: x114 :: x115 :: x116 :: x117 :: x118 :: x119 :: x120 :: x121 :: x122 :: x123 :: x124 :: x125 :: x126 :: x127 :: x128 :: x129 :: .bool false :: x131 :: x132 :: x133 :: x134 :: x135 :: x136 :: x137 :: x138 :: x139 :: x140 :: x141 :: x142 :: x143 :: x144 :: x145 :: x146 :: x147 :: x148 :: x149 :: x150 :: x151 :: x152 :: x153 :: x154 :: x155 :: x156 :: x157 :: x158 :: x159 :: x160 :: x161 :: x162 :: x163 :: x164 :: x165 :: x166 :: x167 :: x168 :: x169 :: x170 :: x171 :: x172 :: x173 :: x174 :: x175 :: x176 :: x177 :: x178 :: x179 :: x180 :: x181 :: x182 :: x183 :: x184 :: x185 :: x186 :: x187 :: x188 :: x189 :: x190 :: x191 :: x192 :: x193 :: x194 :: x195 :: x196 :: x197 :: x198 :: x199 :: x200 :: x201 :: x202 :: x203 :: x204 :: []), []⟩) ∧ SumC w C X Y S T U V P Q p q r u W
set_option maxRecDepth 100000 in
set_option maxHeartbeats 8000000 in
theorem sums11_any (w : World) (C : World → Prop) (hC : ∀ w w', C w → Below w.heap.size w w' → C w') (X Y S T U V : Nat) (P Q : Sp) (p q r u : Spe) (i k a b : Int) (x0 x1 x2 x3 x4 x5 x6 x7 x8 x19 x20 x21 x22 x23 x24 x25 x26 x27 x28 x29 x30 x31 x32 x33 x34 x35 x36 x37 x38 x39 x40 x41 x42 x43 x44 x45 x46 x47 x48 x49 x50 x51 x52 x53 x54 x55 x56 x57 x58 x59 x60 x61 x62 x63 x64 x65 x66 x67 x68 x69 x70 x71 x72 x73 x74 x75 x76 x77 x78 x79 x80 x81 x82 x83 x84 x85 x86 x87 x88 x89 x90 x91 x92 x93 x94 x95 x96 x97 x98 x99 x100 x101 x102 x103 x104 x105 x106 x107 x108 x109 x110 x111 x112 x113 x114 x115 x116 x117 x118 x119 x120 x121 x122 x123 x124 x125 x126 x127 x128 x129 x130 x131 x132 x133 x134 x135 x136 x137 x138 x139 x140 x141 x142 x143 x144 x145 x146 x147 x148 x149 x150 x151 x152 x153 x154 x155 x156 x157 x158 x159 x160 x161 x162 x163 x164 x165 x166 x167 x168 x169 x170 x171 x172 x173 x174 x175 x176 x177 x178 x179 x180 x181 x182 x183 x184 x185 x186 x187 x188 x189 x190 x191 x192 x193 x194 x195 x196 x197 x198 x199 x200 x201 x202 x203 x204 : Value) (Gp : Good p (a + b)) (Gq : Good q (a - b)) (Gr : Good r (a * b)) (Gu : Good u (a * k)) (W : World) (H0 : SumC w C X Y S T U V P Q p q r u W) (Q0 : Exit → Act → World → Prop)
    (hQ : ∀ (y72 y73 y74 y75 y76 y77 y78 y79 y80 y81 y82 y83 y84 y85 y86 y87 y88 y89 y90 y91 y92 y93 y94 y95 y96 y97 y98 y99 y100 y101 y102 y103 y104 y105 y106 y107 y108 y109 y110 y111 y112 y113 y114 y115 y116 y117 y118 y119 y120 y121 y122 y123 y124 y125 y126 y127 y128 y129 y130 y131 y132 y133 y134 y135 y136 y137 y138 y139 y140 y141 y142 y143 y144 y145 y146 y147 y148 : Value) (W' : World), Hid (SumC w C X Y S T U V P Q p q r u W') → Q0 .normal ⟨List.toArray (x0 :: x1 :: x2 :: x3 :: x4 :: x5 :: x6 :: x7 :: x8 :: .int .i64 i :: .pointer (some ⟨X, 0, none⟩) :: .pointer (some ⟨Y, 0, none⟩) :: .int .i64 k :: .int .i64 a :: .int .i64 b :: .pointer (some ⟨S, 0, none⟩) :: .pointer (some ⟨T, 0, none⟩) :: .pointer (some ⟨U, 0, none⟩) :: .pointer (some ⟨V, 0, none⟩) :: x19 :: x20 :: x21 :: x22 :: x23 :: x24 :: x25 :: x26 :: x27 :: x28 :: x29 :: x30 :: x31 :: x32 :: x33 :: x34 :: x35 :: x36 :: x37 :: x38 :: x39 :: x40 :: x41 :: x42 :: x43 :: x44 :: x45 :: x46 :: x47 :: x48 :: x49 :: x50 :: x51 :: x52 :: x53 :: x54 :: x55 :: x56 :: x57 :: x58 :: x59 :: x60 :: x61 :: x62 :: x63 :: x64 :: x65 :: x66 :: x67 :: x68 :: x69 :: x70 :: x71 :: y72 :: y73 :: y74 :: y75 :: y76 :: y77 :: y78 :: y79 :: y80 :: y81 :: y82 :: y83 :: y84 :: y85 :: y86 :: y87 :: y88 :: y89 :: y90 :: y91 :: y92 :: y93 :: y94 :: y95 :: y96 :: y97 :: y98 :: y99 :: y100 :: y101 :: y102 :: y103 :: y104 :: y105 :: y106 :: y107 :: y108 :: y109 :: y110 :: y111 :: y112 :: y113 :: y114 :: y115 :: y116 :: y117 :: y118 :: y119 :: y120 :: y121 :: y122 :: y123 :: y124 :: y125 :: y126 :: y127 :: y128 :: y129 :: y130 :: y131 :: y132 :: y133 :: y134 :: y135 :: y136 :: y137 :: y138 :: y139 :: y140 :: y141 :: y142 :: y143 :: y144 :: y145 :: y146 :: y147 :: y148 :: .bool false :: x150 :: x151 :: x152 :: x153 :: x154 :: x155 :: x156 :: x157 :: x158 :: x159 :: x160 :: x161 :: x162 :: x163 :: x164 :: x165 :: x166 :: x167 :: x168 :: x169 :: x170 :: x171 :: x172 :: x173 :: x174 :: x175 :: x176 :: x177 :: x178 :: x179 :: x180 :: x181 :: x182 :: x183 :: x184 :: x185 :: x186 :: x187 :: x188 :: x189 :: x190 :: x191 :: x192 :: x193 :: x194 :: x195 :: x196 :: x197 :: x198 :: x199 :: x200 :: x201 :: x202 :: x203 :: x204 :: []), []⟩ W')
    : Code.wp Try.prog sums11 Q0 ⟨List.toArray (x0 :: x1 :: x2 :: x3 :: x4 :: x5 :: x6 :: x7 :: x8 :: .int .i64 i :: .pointer (some ⟨X, 0, none⟩) :: .pointer (some ⟨Y, 0, none⟩) :: .int .i64 k :: .int .i64 a :: .int .i64 b :: .pointer (some ⟨S, 0, none⟩) :: .pointer (some ⟨T, 0, none⟩) :: .pointer (some ⟨U, 0, none⟩) :: .pointer (some ⟨V, 0, none⟩) :: x19 :: x20 :: x21 :: x22 :: x23 :: x24 :: x25 :: x26 :: x27 :: x28 :: x29 :: x30 :: x31 :: x32 :: x33 :: x34 :: x35 :: x36 :: x37 :: x38 :: x39 :: x40 :: x41 :: x42 :: x43 :: x44 :: x45 :: x46 :: x47 :: x48 :: x49 :: x50 :: x51 :: x52 :: x53 :: x54 :: x55 :: x56 :: x57 :: x58 :: x59 :: x60 :: x61 :: x62 :: x63 :: x64 :: x65 :: x66 :: x67 :: x68 :: x69 :: x70 :: x71 :: x72 :: x73 :: x74 :: x75 :: x76 :: x77 :: x78 :: x79 :: x80 :: x81 :: x82 :: x83 :: x84 :: x85 :: x86 :: x87 :: x88 :: x89 :: x90 :: x91 :: x92 :: x93 :: x94 :: x95 :: x96 :: x97 :: x98 :: x99 :: x100 :: x101 :: x102 :: x103 :: x104 :: x105 :: x106 :: x107 :: x108 :: x109 :: x110 :: x111 :: x112 :: x113 :: x114 :: x115 :: x116 :: x117 :: x118 :: x119 :: x120 :: x121 :: x122 :: x123 :: x124 :: x125 :: x126 :: x127 :: x128 :: x129 :: x130 :: x131 :: x132 :: x133 :: x134 :: x135 :: x136 :: x137 :: x138 :: x139 :: x140 :: x141 :: x142 :: x143 :: x144 :: x145 :: x146 :: x147 :: x148 :: x149 :: x150 :: x151 :: x152 :: x153 :: x154 :: x155 :: x156 :: x157 :: x158 :: x159 :: x160 :: x161 :: x162 :: x163 :: x164 :: x165 :: x166 :: x167 :: x168 :: x169 :: x170 :: x171 :: x172 :: x173 :: x174 :: x175 :: x176 :: x177 :: x178 :: x179 :: x180 :: x181 :: x182 :: x183 :: x184 :: x185 :: x186 :: x187 :: x188 :: x189 :: x190 :: x191 :: x192 :: x193 :: x194 :: x195 :: x196 :: x197 :: x198 :: x199 :: x200 :: x201 :: x202 :: x203 :: x204 :: []), []⟩ W := by
  conv => arg 2; whnf
  have HC := Lib.hid H0; clear H0
  have HQ := Lib.hid hQ; clear hQ
  refine wp_region_lit ?_
  refine wpList_cutK 19 (SR0 w C X Y S T U V P Q p q r u i k a b x0 x1 x2 x3 x4 x5 x6 x7 x8 x19 x20 x21 x22 x23 x24 x25 x26 x27 x28 x29 x30 x31 x32 x33 x34 x35 x36 x37 x38 x39 x40 x41 x42 x43 x44 x45 x46 x47 x48 x49 x50 x51 x52 x53 x54 x55 x56 x57 x58 x59 x60 x61 x62 x63 x64 x65 x66 x67 x68 x69 x70 x71 x91 x92 x93 x94 x95 x96 x97 x98 x99 x100 x101 x102 x103 x104 x105 x106 x107 x108 x109 x110 x111 x112 x113 x114 x115 x116 x117 x118 x119 x120 x121 x122 x123 x124 x125 x126 x127 x128 x129 x130 x131 x132 x133 x134 x135 x136 x137 x138 x139 x140 x141 x142 x143 x144 x145 x146 x147 x148 x149 x150 x151 x152 x153 x154 x155 x156 x157 x158 x159 x160 x161 x162 x163 x164 x165 x166 x167 x168 x169 x170 x171 x172 x173 x174 x175 x176 x177 x178 x179 x180 x181 x182 x183 x184 x185 x186 x187 x188 x189 x190 x191 x192 x193 x194 x195 x196 x197 x198 x199 x200 x201 x202 x203 x204) ?first0 ?rest0
  case first0 =>
    intro K hK
    simp only [List.append_eq, List.cons_append, List.nil_append, List.take_succ_cons, List.take_zero]
    unfold Good at Gp
    rcases Gp with ⟨he, hp, hh, z1, z2⟩ | he
    · obtain ⟨ps, pe⟩ := p
      dsimp only at he hp hh; subst he
      have hv := (vldB_iff _).2 hp
      obtain ⟨⟨g0, g1, g2⟩, g3⟩ := HC.out.fs; dsimp only at g0 g1 g2 g3
      go_wp2_with (first | (go_at_call 15; (with_reducible refine (valid_any ps _).mono ?_); rw [hv]; rintro e w5 ⟨rfl, hb⟩; replace HC := Lib.hid (HC.out.step hC hb); clear g0 g1 g2 g3 hb; obtain ⟨⟨g0, g1, g2⟩, g3⟩ := HC.out.fs; dsimp only at g0 g1 g2 g3) | (go_at_call 13; (with_reducible refine (has_any ps (a + b) _ hp.st0 hp.pos (by have := hp.lo; omega) (by have := hp.hi; omega) (by have := hp.stle; have := hp.lo; have := hp.hi; omega)).mono ?_); rw [hh]; rintro e w5 ⟨rfl, hb⟩; replace HC := Lib.hid (HC.out.step hC hb); clear g0 g1 g2 g3 hb; obtain ⟨⟨g0, g1, g2⟩, g3⟩ := HC.out.fs; dsimp only at g0 g1 g2 g3))
      unfold SR0
      exact ⟨⟨_, _, _, _, _, _, _, _, _, _, _, _, _, _, _, _, _, _, rfl⟩, HC.out⟩
    · obtain ⟨ps, pe⟩ := p
      dsimp only at he; subst he
      obtain ⟨⟨g0, g1, g2⟩, g3⟩ := HC.out.fs; dsimp only at g0 g1 g2 g3
      go_wp2_with fail
      unfold SR0
      exact ⟨⟨_, _, _, _, _, _, _, _, _, _, _, _, _, _, _, _, _, _, rfl⟩, HC.out⟩
  case rest0 =>
    intro a1 w1 h1
    unfold SR0 at h1
    clear HC
    obtain ⟨⟨x72, x73, x74, x75, x76, x77, x78, x79, x80, x81, x82, x83, x84, x85, x86, x87, x88, x89, rfl⟩, H1⟩ := h1
    have HC := Lib.hid H1; clear H1
    clear Gp
    simp only [List.append_eq, List.cons_append, List.nil_append, List.drop_succ_cons, List.drop_zero]
    refine wpList_cutK 20 (SR1 w C X Y S T U V P Q p q r u i k a b x0 x1 x2 x3 x4 x5 x6 x7 x8 x19 x20 x21 x22 x23 x24 x25 x26 x27 x28 x29 x30 x31 x32 x33 x34 x35 x36 x37 x38 x39 x40 x41 x42 x43 x44 x45 x46 x47 x48 x49 x50 x51 x52 x53 x54 x55 x56 x57 x58 x59 x60 x61 x62 x63 x64 x65 x66 x67 x68 x69 x70 x71 x111 x112 x113 x114 x115 x116 x117 x118 x119 x120 x121 x122 x123 x124 x125 x126 x127 x128 x129 x130 x131 x132 x133 x134 x135 x136 x137 x138 x139 x140 x141 x142 x143 x144 x145 x146 x147 x148 x149 x150 x151 x152 x153 x154 x155 x156 x157 x158 x159 x160 x161 x162 x163 x164 x165 x166 x167 x168 x169 x170 x171 x172 x173 x174 x175 x176 x177 x178 x179 x180 x181 x182 x183 x184 x185 x186 x187 x188 x189 x190 x191 x192 x193 x194 x195 x196 x197 x198 x199 x200 x201 x202 x203 x204) ?first1 ?rest1
    case first1 =>
      intro K hK
      simp only [List.append_eq, List.cons_append, List.nil_append, List.take_succ_cons, List.take_zero]
      unfold Good at Gq
      rcases Gq with ⟨he, hp, hh, z1, z2⟩ | he
      · obtain ⟨qs, qe⟩ := q
        dsimp only at he hp hh; subst he
        have hv := (vldB_iff _).2 hp
        obtain ⟨⟨g0, g1, g2⟩, g3⟩ := HC.out.ft; dsimp only at g0 g1 g2 g3
        go_wp2_with (first | (go_at_call 15; (with_reducible refine (valid_any qs _).mono ?_); rw [hv]; rintro e w5 ⟨rfl, hb⟩; replace HC := Lib.hid (HC.out.step hC hb); clear g0 g1 g2 g3 hb; obtain ⟨⟨g0, g1, g2⟩, g3⟩ := HC.out.ft; dsimp only at g0 g1 g2 g3) | (go_at_call 13; (with_reducible refine (has_any qs (a - b) _ hp.st0 hp.pos (by have := hp.lo; omega) (by have := hp.hi; omega) (by have := hp.stle; have := hp.lo; have := hp.hi; omega)).mono ?_); rw [hh]; rintro e w5 ⟨rfl, hb⟩; replace HC := Lib.hid (HC.out.step hC hb); clear g0 g1 g2 g3 hb; obtain ⟨⟨g0, g1, g2⟩, g3⟩ := HC.out.ft; dsimp only at g0 g1 g2 g3))
        unfold SR1
        exact ⟨⟨_, _, _, _, _, _, _, _, _, _, _, _, _, _, _, _, _, _, _, _, _, _, _, _, _, _, _, _, _, _, _, _, _, _, _, _, _, _, rfl⟩, HC.out⟩
      · obtain ⟨qs, qe⟩ := q
        dsimp only at he; subst he
        obtain ⟨⟨g0, g1, g2⟩, g3⟩ := HC.out.ft; dsimp only at g0 g1 g2 g3
        go_wp2_with fail
        unfold SR1
        exact ⟨⟨_, _, _, _, _, _, _, _, _, _, _, _, _, _, _, _, _, _, _, _, _, _, _, _, _, _, _, _, _, _, _, _, _, _, _, _, _, _, rfl⟩, HC.out⟩
    case rest1 =>
      intro a1 w1 h1
      unfold SR1 at h1
      clear HC
      obtain ⟨⟨x72, x73, x74, x75, x76, x77, x78, x79, x80, x81, x82, x83, x84, x85, x86, x87, x88, x89, x90, x91, x92, x93, x94, x95, x96, x97, x98, x99, x100, x101, x102, x103, x104, x105, x106, x107, x108, x109, rfl⟩, H1⟩ := h1
      have HC := Lib.hid H1; clear H1
      clear Gq
      simp only [List.append_eq, List.cons_append, List.nil_append, List.drop_succ_cons, List.drop_zero]
      refine wpList_cutK 20 (SR2 w C X Y S T U V P Q p q r u i k a b x0 x1 x2 x3 x4 x5 x6 x7 x8 x19 x20 x21 x22 x23 x24 x25 x26 x27 x28 x29 x30 x31 x32 x33 x34 x35 x36 x37 x38 x39 x40 x41 x42 x43 x44 x45 x46 x47 x48 x49 x50 x51 x52 x53 x54 x55 x56 x57 x58 x59 x60 x61 x62 x63 x64 x65 x66 x67 x68 x69 x70 x71 x131 x132 x133 x134 x135 x136 x137 x138 x139 x140 x141 x142 x143 x144 x145 x146 x147 x148 x149 x150 x151 x152 x153 x154 x155 x156 x157 x158 x159 x160 x161 x162 x163 x164 x165 x166 x167 x168 x169 x170 x171 x172 x173 x174 x175 x176 x177 x178 x179 x180 x181 x182 x183 x184 x185 x186 x187 x188 x189 x190 x191 x192 x193 x194 x195 x196 x197 x198 x199 x200 x201 x202 x203 x204) ?first2 ?rest2
      case first2 =>
        intro K hK
        simp only [List.append_eq, List.cons_append, List.nil_append, List.take_succ_cons, List.take_zero]
        unfold Good at Gr
        rcases Gr with ⟨he, hp, hh, z1, z2⟩ | he
        · obtain ⟨rs, re⟩ := r
          dsimp only at he hp hh; subst he
          have hv := (vldB_iff _).2 hp
          obtain ⟨⟨g0, g1, g2⟩, g3⟩ := HC.out.fu; dsimp only at g0 g1 g2 g3
          go_wp2_with (first | (go_at_call 15; (with_reducible refine (valid_any rs _).mono ?_); rw [hv]; rintro e w5 ⟨rfl, hb⟩; replace HC := Lib.hid (HC.out.step hC hb); clear g0 g1 g2 g3 hb; obtain ⟨⟨g0, g1, g2⟩, g3⟩ := HC.out.fu; dsimp only at g0 g1 g2 g3) | (go_at_call 13; (with_reducible refine (has_any rs (a * b) _ hp.st0 hp.pos (by have := hp.lo; omega) (by have := hp.hi; omega) (by have := hp.stle; have := hp.lo; have := hp.hi; omega)).mono ?_); rw [hh]; rintro e w5 ⟨rfl, hb⟩; replace HC := Lib.hid (HC.out.step hC hb); clear g0 g1 g2 g3 hb; obtain ⟨⟨g0, g1, g2⟩, g3⟩ := HC.out.fu; dsimp only at g0 g1 g2 g3))
          unfold SR2
          exact ⟨⟨_, _, _, _, _, _, _, _, _, _, _, _, _, _, _, _, _, _, _, _, _, _, _, _, _, _, _, _, _, _, _, _, _, _, _, _, _, _, _, _, _, _, _, _, _, _, _, _, _, _, _, _, _, _, _, _, _, _, rfl⟩, HC.out⟩
        · obtain ⟨rs, re⟩ := r
          dsimp only at he; subst he
          obtain ⟨⟨g0, g1, g2⟩, g3⟩ := HC.out.fu; dsimp only at g0 g1 g2 g3
          go_wp2_with fail
          unfold SR2
          exact ⟨⟨_, _, _, _, _, _, _, _, _, _, _, _, _, _, _, _, _, _, _, _, _, _, _, _, _, _, _, _, _, _, _, _, _, _, _, _, _, _, _, _, _, _, _, _, _, _, _, _, _, _, _, _, _, _, _, _, _, _, rfl⟩, HC.out⟩
      case rest2 =>
        intro a1 w1 h1
        unfold SR2 at h1
        clear HC
        obtain ⟨⟨x72, x73, x74, x75, x76, x77, x78, x79, x80, x81, x82, x83, x84, x85, x86, x87, x88, x89, x90, x91, x92, x93, x94, x95, x96, x97, x98, x99, x100, x101, x102, x103, x104, x105, x106, x107, x108, x109, x110, x111, x112, x113, x114, x115, x116, x117, x118, x119, x120, x121, x122, x123, x124, x125, x126, x127, x128, x129, rfl⟩, H1⟩ := h1
        have HC := Lib.hid H1; clear H1
        clear Gr
        simp only [List.append_eq, List.cons_append, List.nil_append, List.drop_succ_cons, List.drop_zero]
        unfold Good at Gu
        rcases Gu with ⟨he, hp, hh, z1, z2⟩ | he
        · obtain ⟨us, ue⟩ := u
          dsimp only at he hp hh; subst he
          have hv := (vldB_iff _).2 hp
          obtain ⟨⟨g0, g1, g2⟩, g3⟩ := HC.out.fv; dsimp only at g0 g1 g2 g3
          go_wp2_with (first | (go_at_call 15; (with_reducible refine (valid_any us _).mono ?_); rw [hv]; rintro e w5 ⟨rfl, hb⟩; replace HC := Lib.hid (HC.out.step hC hb); clear g0 g1 g2 g3 hb; obtain ⟨⟨g0, g1, g2⟩, g3⟩ := HC.out.fv; dsimp only at g0 g1 g2 g3) | (go_at_call 13; (with_reducible refine (has_any us (a * k) _ hp.st0 hp.pos (by have := hp.lo; omega) (by have := hp.hi; omega) (by have := hp.stle; have := hp.lo; have := hp.hi; omega)).mono ?_); rw [hh]; rintro e w5 ⟨rfl, hb⟩; replace HC := Lib.hid (HC.out.step hC hb); clear g0 g1 g2 g3 hb; obtain ⟨⟨g0, g1, g2⟩, g3⟩ := HC.out.fv; dsimp only at g0 g1 g2 g3))
          apply HQ.out
          exact HC
        · obtain ⟨us, ue⟩ := u
          dsimp only at he; subst he
          obtain ⟨⟨g0, g1, g2⟩, g3⟩ := HC.out.fv; dsimp only at g0 g1 g2 g3
          go_wp2_with fail
          apply HQ.out
          exact HC
end Go.Proofs.Ytnihhchgnkfcgaa

