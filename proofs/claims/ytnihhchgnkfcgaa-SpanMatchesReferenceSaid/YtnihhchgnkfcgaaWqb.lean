/- SpanSums: the test of the errors (region 14), as a text of its own. -/
import Derived.Test.YtnihhchgnkfcgaaWqa
-- USEBDN
set_option linter.unusedSimpArgs false
set_option linter.unusedVariables false
namespace Go.Proofs.Ytnihhchgnkfcgaa
open Go.ChangeShapes Go.WideShapes Go.ChangeAt Go.RowKit
noncomputable def sums14 : Code := navC [1, 1, 1, 1, 0, 1, 1, 1, 1, 0, 1, 1, 1, 1, 1, 1, 0] (Try.f8.body.getD .skip)
def FitP (P Q : Sp) (p : Spe) : Prop := -1099511627776 ≤ P.lo + Q.lo ∧ ((p.e = 0 ∧ P.hi + Q.hi ≤ 1099511627776) ∨ (p.e = 2 ∧ decide (P.hi + Q.hi ≤ 1099511627776) = false))
def FitQ (P Q : Sp) (q : Spe) : Prop := (q.e = 0 ∧ -1099511627776 ≤ P.lo - Q.hi ∧ P.hi - Q.lo ≤ 1099511627776) ∨ (q.e = 2 ∧ decide (-1099511627776 ≤ P.lo - Q.hi) = false) ∨ (q.e = 2 ∧ -1099511627776 ≤ P.lo - Q.hi ∧ decide (P.hi - Q.lo ≤ 1099511627776) = false)
def FitR (i : Int) (r : Spe) : Prop := i = 0 ∨ (i = 1 ∧ r.e = 0)
set_option maxRecDepth 100000 in
def ST0 (w : World) (C : World → Prop) (X Y S T U V : Nat) (P Q : Sp) (p q r u : Spe) (i k a b : Int) (x0 x1 x2 x3 x4 x5 x6 x7 x8 x20 x21 x22 x23 x24 x25 x26 x27 x28 x29 x30 x31 x32 x33 x34 x35 x36 x37 x38 x39 x40 x41 x42 x43 x44 x45 x46 x47 x48 x49 x50 x51 x52 x53 x54 x55 x56 x57 x58 x59 x60 x61 x62 x63 x64 x65 x66 x67 x68 x69 x70 x71 x72 x73 x74 x75 x76 x77 x78 x79 x80 x81 x82 x83 x84 x85 x86 x87 x88 x89 x90 x91 x92 x93 x94 x95 x96 x97 x98 x99 x100 x101 x102 x103 x104 x105 x106 x107 x108 x109 x110 x111 x112 x113 x114 x115 x116 x117 x118 x119 x120 x121 x122 x123 x124 x125 x126 x127 x128 x129 x130 x131 x132 x133 x134 x135 x136 x137 x138 x139 x140 x141 x142 x143 x144 x145 x146 x147 x148 x149 x150 x173 x174 x175 x176 x177 x178 x179 x180 x181 x182 x183 x184 x185 x186 x187 x188 x189 x190 x191 x192 x193 x194 x195 x196 x197 x198 x199 x200 x201 x202 x203 x204 : Value) (A : Act) (W : World) : Prop :=
  (∃ x151 x152 x153 x154 x155 x156 x157 x158 x159 x160 x161 x162 x163 x164 x165 x166 x167 x168 x169 x170 x171 : Value, A = ⟨List.toArray (x0 :: x1 :: x2 :: x3 :: x4 :: x5 :: x6 :: x7 :: x8 :: .int .i64 i :: .pointer (some ⟨X, 0, none⟩) :: .pointer (some ⟨Y, 0, none⟩) :: .int .i64 k :: .int .i64 a :: .int .i64 b :: .pointer (some ⟨S, 0, none⟩) :: .pointer (some ⟨T, 0, none⟩) :: .pointer (some ⟨U, 0, none⟩) :: .pointer (some ⟨V, 0, none⟩) :: .int .i64 1099511627776 :: x20 :: x21 :: x22 :: x23 :: x24 :: x25 :: x26 :: x27 :: x28 :: x29 :: x30 :: x31 :: x32 :: x33 :: x34 :: x35 :: x36 :: x37 :: x38 :: x39 :: x40 :: x41 :: x42 :: x43 :: x44 :: x45 :: x46 :: x47 :: x48 :: x49 :: x50 :: x51 :: x52 :: x53 :: x54 :: x55 :: x56 :: x57 :: x58 :: x59 :: x60 :: x61 :: x62 :: x63 :: x64 :: x65 :: x66 :: x67 :: x68 :: x69 :: x70 :: x71 :: x72 :: x73 :: x74 :: x75 :: x76 :: x77 :: x78 :: x79 :: x80 :: x81 :: x82 :: x83 :: x84 :: x85 :: x86 :: x87 :: x88 :: x89 :: x90 :: x91 :: x92 :: x93 :: x94 :: x95 :: x96 :: x97 :: x98 :: x99 :: x100 :: x101 :: x102 :: x103 :: x104 :: x105 :: x106 :: x107 :: x108 :: x109 :: x110 :: x111 :: x112 :: x113 :: x114 :: x115 :: x116 :: x117 :: x118 :: x119 :: x120 :: x121 :: x122 :: x123 :: x124 :: x125 :: x126 :: x127 :: x128 :: x129 :: x130 :: x131 :: x132 :: x133 :: x134 :: x135 :: x136 :: x137 :: x138 :: x139 :: x140 :: x141 :: x142 :: x143 :: x144 :: x145 :: x146 :: x147 :: x148 :: x149 :: x150 :: x151 :: x152 :: x153 :: x154 :: x155 :: x156 :: x157 :: x158 :: x159 :: x160 :: x161 :: x162 :: x163 :: x164 :: x165 :: x166 :: x167 :: x168 :: x169 :: x170 :: x171 :: .bool false :: x173 :: x174 :: x175 :: x176 :: x177 :: x178 :: x179 :: x180 :: x181 :: x182 :: x183 :: x184 :: x185 :: x186 :: x187 :: x188 :: x189 :: x190 :: x191 :: x192 :: x193 :: x194 :: x195 :: x196 :: x197 :: x198 :: x199 :: x200 :: x201 :: x202 :: x203 :: x204 :: []), []⟩) ∧ SumC w C X Y S T U V P Q p q r u W
set_option maxRecDepth 100000 in
def ST1 (w : World) (C : World → Prop) (X Y S T U V : Nat) (P Q : Sp) (p q r u : Spe) (i k a b : Int) (x0 x1 x2 x3 x4 x5 x6 x7 x8 x20 x21 x22 x23 x24 x25 x26 x27 x28 x29 x30 x31 x32 x33 x34 x35 x36 x37 x38 x39 x40 x41 x42 x43 x44 x45 x46 x47 x48 x49 x50 x51 x52 x53 x54 x55 x56 x57 x58 x59 x60 x61 x62 x63 x64 x65 x66 x67 x68 x69 x70 x71 x72 x73 x74 x75 x76 x77 x78 x79 x80 x81 x82 x83 x84 x85 x86 x87 x88 x89 x90 x91 x92 x93 x94 x95 x96 x97 x98 x99 x100 x101 x102 x103 x104 x105 x106 x107 x108 x109 x110 x111 x112 x113 x114 x115 x116 x117 x118 x119 x120 x121 x122 x123 x124 x125 x126 x127 x128 x129 x130 x131 x132 x133 x134 x135 x136 x137 x138 x139 x140 x141 x142 x143 x144 x145 x146 x147 x148 x149 x150 x196 x197 x198 x199 x200 x201 x202 x203 x204 : Value) (A : Act) (W : World) : Prop :=
  (∃ x151 x152 x153 x154 x155 x156 x157 x158 x159 x160 x161 x162 x163 x164 x165 x166 x167 x168 x169 x170 x171 x172 x173 x174 x175 x176 x177 x178 x179 x180 x181 x182 x183 x184 x185 x186 x187 x188 x189 x190 x191 x192 x193 x194 : Value, A = ⟨List.toArray (x0 :: x1 :: x2 :: x3 :: x4 :: x5 :: x6 :: x7 :: x8 :: .int .i64 i :: .pointer (some ⟨X, 0, none⟩) :: .pointer (some ⟨Y, 0, none⟩) :: .int .i64 k :: .int .i64 a :: .int .i64 b :: .pointer (some ⟨S, 0, none⟩) :: .pointer (some ⟨T, 0, none⟩) :: .pointer (some ⟨U, 0, none⟩) :: .pointer (some ⟨V, 0, none⟩) :: .int .i64 1099511627776 :: x20 :: x21 :: x22 :: x23 :: x24 :: x25 :: x26 :: x27 :: x28 :: x29 :: x30 :: x31 :: x32 :: x33 :: x34 :: x35 :: x36 :: x37 :: x38 :: x39 :: x40 :: x41 :: x42 :: x43 :: x44 :: x45 :: x46 :: x47 :: x48 :: x49 :: x50 :: x51 :: x52 :: x53 :: x54 :: x55 :: x56 :: x57 :: x58 :: x59 :: x60 :: x61 :: x62 :: x63 :: x64 :: x65 :: x66 :: x67 :: x68 :: x69 :: x70 :: x71 :: x72 :: x73 :: x74 :: x75 :: x76 :: x77 :: x78 :: x79 :: x80 :: x81 :: x82 :: x83 :: x84 :: x85 :: x86 :: x87 :: x88 :: x89 :: x90 :: x91 :: x92 :: x93 :: x94 :: x95 :: x96 :: x97 :: x98 :: x99 :: x100 :: x101 :: x102 :: x103 :: x104 :: x105 :: x106 :: x107 :: x108 :: x109 :: x110 :: x111 :: x112 :: x113 :: x114 :: x115 :: x116 :: x117 :: x118 :: x119 :: x120 :: x121 :: x122 :: x123 :: x124 :: x125 :: x126 :: x127 :: x128 :: x129 :: x130 :: x131 :: x132 :: x133 :: x134 :: x135 :: x136 :: x137 :: x138 :: x139 :: x140 :: x141 :: x142 :: x143 :: x144 :: x145 :: x146 :: x147 :: x148 :: x149 :: x150 :: x151 :: x152 :: x153 :: x154 :: x155 :: x156 :: x157 :: x158 :: x159 :: x160 :: x161 :: x162 :: x163 :: x164 :: x165 :: x166 :: x167 :: x168 :: x169 :: x170 :: x171 :: x172 :: x173 :: x174 :: x175 :: x176 :: x177 :: x178 :: x179 :: x180 :: x181 :: x182 :: x183 :: x184 :: x185 :: x186 :: x187 :: x188 :: x189 :: x190 :: x191 :: x192 :: x193 :: x194 :: .bool false :: x196 :: x197 :: x198 :: x199 :: x200 :: x201 :: x202 :: x203 :: x204 :: []), []⟩) ∧ SumC w C X Y S T U V P Q p q r u W
set_option maxRecDepth 100000 in
set_option maxHeartbeats 8000000 in
theorem sums14_any (w : World) (C : World → Prop) (hC : ∀ w w', C w → Below w.heap.size w w' → C w') (X Y S T U V : Nat) (P Q : Sp) (p q r u : Spe) (i k a b : Int) (x0 x1 x2 x3 x4 x5 x6 x7 x8 x20 x21 x22 x23 x24 x25 x26 x27 x28 x29 x30 x31 x32 x33 x34 x35 x36 x37 x38 x39 x40 x41 x42 x43 x44 x45 x46 x47 x48 x49 x50 x51 x52 x53 x54 x55 x56 x57 x58 x59 x60 x61 x62 x63 x64 x65 x66 x67 x68 x69 x70 x71 x72 x73 x74 x75 x76 x77 x78 x79 x80 x81 x82 x83 x84 x85 x86 x87 x88 x89 x90 x91 x92 x93 x94 x95 x96 x97 x98 x99 x100 x101 x102 x103 x104 x105 x106 x107 x108 x109 x110 x111 x112 x113 x114 x115 x116 x117 x118 x119 x120 x121 x122 x123 x124 x125 x126 x127 x128 x129 x130 x131 x132 x133 x134 x135 x136 x137 x138 x139 x140 x141 x142 x143 x144 x145 x146 x147 x148 x149 x150 x151 x152 x153 x154 x155 x156 x157 x158 x159 x160 x161 x162 x163 x164 x165 x166 x167 x168 x169 x170 x171 x172 x173 x174 x175 x176 x177 x178 x179 x180 x181 x182 x183 x184 x185 x186 x187 x188 x189 x190 x191 x192 x193 x194 x195 x196 x197 x198 x199 x200 x201 x202 x203 x204 : Value) (hP : Vld P) (hV : Vld Q) (Fp : FitP P Q p) (Fq : FitQ P Q q) (Fr : FitR i r) (W : World) (H0 : SumC w C X Y S T U V P Q p q r u W) (Q0 : Exit → Act → World → Prop)
    (hQ : ∀ (y151 y152 y153 y154 y155 y156 y157 y158 y159 y160 y161 y162 y163 y164 y165 y166 y167 y168 y169 y170 y171 y172 y173 y174 y175 y176 y177 y178 y179 y180 y181 y182 y183 y184 y185 y186 y187 y188 y189 y190 y191 y192 y193 y194 y195 y196 y197 y198 y199 y200 y201 y202 : Value) (W' : World), Hid (SumC w C X Y S T U V P Q p q r u W') → Q0 .normal ⟨List.toArray (x0 :: x1 :: x2 :: x3 :: x4 :: x5 :: x6 :: x7 :: x8 :: .int .i64 i :: .pointer (some ⟨X, 0, none⟩) :: .pointer (some ⟨Y, 0, none⟩) :: .int .i64 k :: .int .i64 a :: .int .i64 b :: .pointer (some ⟨S, 0, none⟩) :: .pointer (some ⟨T, 0, none⟩) :: .pointer (some ⟨U, 0, none⟩) :: .pointer (some ⟨V, 0, none⟩) :: .int .i64 1099511627776 :: x20 :: x21 :: x22 :: x23 :: x24 :: x25 :: x26 :: x27 :: x28 :: x29 :: x30 :: x31 :: x32 :: x33 :: x34 :: x35 :: x36 :: x37 :: x38 :: x39 :: x40 :: x41 :: x42 :: x43 :: x44 :: x45 :: x46 :: x47 :: x48 :: x49 :: x50 :: x51 :: x52 :: x53 :: x54 :: x55 :: x56 :: x57 :: x58 :: x59 :: x60 :: x61 :: x62 :: x63 :: x64 :: x65 :: x66 :: x67 :: x68 :: x69 :: x70 :: x71 :: x72 :: x73 :: x74 :: x75 :: x76 :: x77 :: x78 :: x79 :: x80 :: x81 :: x82 :: x83 :: x84 :: x85 :: x86 :: x87 :: x88 :: x89 :: x90 :: x91 :: x92 :: x93 :: x94 :: x95 :: x96 :: x97 :: x98 :: x99 :: x100 :: x101 :: x102 :: x103 :: x104 :: x105 :: x106 :: x107 :: x108 :: x109 :: x110 :: x111 :: x112 :: x113 :: x114 :: x115 :: x116 :: x117 :: x118 :: x119 :: x120 :: x121 :: x122 :: x123 :: x124 :: x125 :: x126 :: x127 :: x128 :: x129 :: x130 :: x131 :: x132 :: x133 :: x134 :: x135 :: x136 :: x137 :: x138 :: x139 :: x140 :: x141 :: x142 :: x143 :: x144 :: x145 :: x146 :: x147 :: x148 :: x149 :: x150 :: y151 :: y152 :: y153 :: y154 :: y155 :: y156 :: y157 :: y158 :: y159 :: y160 :: y161 :: y162 :: y163 :: y164 :: y165 :: y166 :: y167 :: y168 :: y169 :: y170 :: y171 :: y172 :: y173 :: y174 :: y175 :: y176 :: y177 :: y178 :: y179 :: y180 :: y181 :: y182 :: y183 :: y184 :: y185 :: y186 :: y187 :: y188 :: y189 :: y190 :: y191 :: y192 :: y193 :: y194 :: y195 :: y196 :: y197 :: y198 :: y199 :: y200 :: y201 :: y202 :: .bool false :: x204 :: []), []⟩ W')
    : Code.wp Try.prog sums14 Q0 ⟨List.toArray (x0 :: x1 :: x2 :: x3 :: x4 :: x5 :: x6 :: x7 :: x8 :: .int .i64 i :: .pointer (some ⟨X, 0, none⟩) :: .pointer (some ⟨Y, 0, none⟩) :: .int .i64 k :: .int .i64 a :: .int .i64 b :: .pointer (some ⟨S, 0, none⟩) :: .pointer (some ⟨T, 0, none⟩) :: .pointer (some ⟨U, 0, none⟩) :: .pointer (some ⟨V, 0, none⟩) :: .int .i64 1099511627776 :: x20 :: x21 :: x22 :: x23 :: x24 :: x25 :: x26 :: x27 :: x28 :: x29 :: x30 :: x31 :: x32 :: x33 :: x34 :: x35 :: x36 :: x37 :: x38 :: x39 :: x40 :: x41 :: x42 :: x43 :: x44 :: x45 :: x46 :: x47 :: x48 :: x49 :: x50 :: x51 :: x52 :: x53 :: x54 :: x55 :: x56 :: x57 :: x58 :: x59 :: x60 :: x61 :: x62 :: x63 :: x64 :: x65 :: x66 :: x67 :: x68 :: x69 :: x70 :: x71 :: x72 :: x73 :: x74 :: x75 :: x76 :: x77 :: x78 :: x79 :: x80 :: x81 :: x82 :: x83 :: x84 :: x85 :: x86 :: x87 :: x88 :: x89 :: x90 :: x91 :: x92 :: x93 :: x94 :: x95 :: x96 :: x97 :: x98 :: x99 :: x100 :: x101 :: x102 :: x103 :: x104 :: x105 :: x106 :: x107 :: x108 :: x109 :: x110 :: x111 :: x112 :: x113 :: x114 :: x115 :: x116 :: x117 :: x118 :: x119 :: x120 :: x121 :: x122 :: x123 :: x124 :: x125 :: x126 :: x127 :: x128 :: x129 :: x130 :: x131 :: x132 :: x133 :: x134 :: x135 :: x136 :: x137 :: x138 :: x139 :: x140 :: x141 :: x142 :: x143 :: x144 :: x145 :: x146 :: x147 :: x148 :: x149 :: x150 :: x151 :: x152 :: x153 :: x154 :: x155 :: x156 :: x157 :: x158 :: x159 :: x160 :: x161 :: x162 :: x163 :: x164 :: x165 :: x166 :: x167 :: x168 :: x169 :: x170 :: x171 :: x172 :: x173 :: x174 :: x175 :: x176 :: x177 :: x178 :: x179 :: x180 :: x181 :: x182 :: x183 :: x184 :: x185 :: x186 :: x187 :: x188 :: x189 :: x190 :: x191 :: x192 :: x193 :: x194 :: x195 :: x196 :: x197 :: x198 :: x199 :: x200 :: x201 :: x202 :: x203 :: x204 :: []), []⟩ W := by
  conv => arg 2; whnf
  have HC := Lib.hid H0; clear H0
  have HQ := Lib.hid hQ; clear hQ
  have l1 := hP.lo; have l2 := hP.hi; have l3 := hV.lo; have l4 := hV.hi; have l5 := hP.le; have l6 := hV.le
  obtain ⟨ps, pe⟩ := p
  obtain ⟨qs, qe⟩ := q
  obtain ⟨rs, re⟩ := r
  refine wp_region_lit ?_
  refine wpList_cutK 22 (ST0 w C X Y S T U V P Q ⟨ps, pe⟩ ⟨qs, qe⟩ ⟨rs, re⟩ u i k a b x0 x1 x2 x3 x4 x5 x6 x7 x8 x20 x21 x22 x23 x24 x25 x26 x27 x28 x29 x30 x31 x32 x33 x34 x35 x36 x37 x38 x39 x40 x41 x42 x43 x44 x45 x46 x47 x48 x49 x50 x51 x52 x53 x54 x55 x56 x57 x58 x59 x60 x61 x62 x63 x64 x65 x66 x67 x68 x69 x70 x71 x72 x73 x74 x75 x76 x77 x78 x79 x80 x81 x82 x83 x84 x85 x86 x87 x88 x89 x90 x91 x92 x93 x94 x95 x96 x97 x98 x99 x100 x101 x102 x103 x104 x105 x106 x107 x108 x109 x110 x111 x112 x113 x114 x115 x116 x117 x118 x119 x120 x121 x122 x123 x124 x125 x126 x127 x128 x129 x130 x131 x132 x133 x134 x135 x136 x137 x138 x139 x140 x141 x142 x143 x144 x145 x146 x147 x148 x149 x150 x173 x174 x175 x176 x177 x178 x179 x180 x181 x182 x183 x184 x185 x186 x187 x188 x189 x190 x191 x192 x193 x194 x195 x196 x197 x198 x199 x200 x201 x202 x203 x204) ?first0 ?rest0
  case first0 =>
    intro K hK
    simp only [List.append_eq, List.cons_append, List.nil_append, List.take_succ_cons, List.take_zero]
    unfold FitP at Fp
    obtain ⟨f0, ⟨he, f1⟩ | ⟨he, f1⟩⟩ := Fp
    all_goals
      dsimp only at he; subst he
      obtain ⟨g0, g1, g2⟩ := HC.out.fx; obtain ⟨g3, g4, g5⟩ := HC.out.fy; have g6 := HC.out.fs.e
      go_wp2
      unfold ST0
      exact ⟨⟨_, _, _, _, _, _, _, _, _, _, _, _, _, _, _, _, _, _, _, _, _, rfl⟩, HC.out⟩
  case rest0 =>
    intro a1 w1 h1
    unfold ST0 at h1
    clear HC
    obtain ⟨⟨x151, x152, x153, x154, x155, x156, x157, x158, x159, x160, x161, x162, x163, x164, x165, x166, x167, x168, x169, x170, x171, rfl⟩, H1⟩ := h1
    have HC := Lib.hid H1; clear H1
    simp only [List.append_eq, List.cons_append, List.nil_append, List.drop_succ_cons, List.drop_zero]
    refine wpList_cutK 23 (ST1 w C X Y S T U V P Q ⟨ps, pe⟩ ⟨qs, qe⟩ ⟨rs, re⟩ u i k a b x0 x1 x2 x3 x4 x5 x6 x7 x8 x20 x21 x22 x23 x24 x25 x26 x27 x28 x29 x30 x31 x32 x33 x34 x35 x36 x37 x38 x39 x40 x41 x42 x43 x44 x45 x46 x47 x48 x49 x50 x51 x52 x53 x54 x55 x56 x57 x58 x59 x60 x61 x62 x63 x64 x65 x66 x67 x68 x69 x70 x71 x72 x73 x74 x75 x76 x77 x78 x79 x80 x81 x82 x83 x84 x85 x86 x87 x88 x89 x90 x91 x92 x93 x94 x95 x96 x97 x98 x99 x100 x101 x102 x103 x104 x105 x106 x107 x108 x109 x110 x111 x112 x113 x114 x115 x116 x117 x118 x119 x120 x121 x122 x123 x124 x125 x126 x127 x128 x129 x130 x131 x132 x133 x134 x135 x136 x137 x138 x139 x140 x141 x142 x143 x144 x145 x146 x147 x148 x149 x150 x196 x197 x198 x199 x200 x201 x202 x203 x204) ?first1 ?rest1
    case first1 =>
      intro K hK
      simp only [List.append_eq, List.cons_append, List.nil_append, List.take_succ_cons, List.take_zero]
      unfold FitQ at Fq
      rcases Fq with ⟨he, f0, f1⟩ | ⟨he, f0⟩ | ⟨he, f0, f1⟩
      all_goals
        dsimp only at he; subst he
        obtain ⟨g0, g1, g2⟩ := HC.out.fx; obtain ⟨g3, g4, g5⟩ := HC.out.fy; have g6 := HC.out.ft.e
        go_wp2
        unfold ST1
        exact ⟨⟨_, _, _, _, _, _, _, _, _, _, _, _, _, _, _, _, _, _, _, _, _, _, _, _, _, _, _, _, _, _, _, _, _, _, _, _, _, _, _, _, _, _, _, _, rfl⟩, HC.out⟩
    case rest1 =>
      intro a1 w1 h1
      unfold ST1 at h1
      clear HC
      obtain ⟨⟨x151, x152, x153, x154, x155, x156, x157, x158, x159, x160, x161, x162, x163, x164, x165, x166, x167, x168, x169, x170, x171, x172, x173, x174, x175, x176, x177, x178, x179, x180, x181, x182, x183, x184, x185, x186, x187, x188, x189, x190, x191, x192, x193, x194, rfl⟩, H1⟩ := h1
      have HC := Lib.hid H1; clear H1
      simp only [List.append_eq, List.cons_append, List.nil_append, List.drop_succ_cons, List.drop_zero]
      unfold FitR at Fr
      rcases Fr with rfl | ⟨rfl, he⟩
      · go_wp2
        apply HQ.out
        exact HC
      · dsimp only at he; subst he
        have g6 := HC.out.fu.e
        go_wp2
        apply HQ.out
        exact HC
end Go.Proofs.Ytnihhchgnkfcgaa

