/- SpanSums: what a round does behind the two spans and the number (regions 9 to 15), as a text of its own. -/
import Derived.Test.YtnihhchgnkfcgaaWqb
import Derived.Deep.DeepCutAuto
-- USEBDN
set_option linter.unusedSimpArgs false
set_option linter.unusedVariables false
namespace Go.Proofs.Ytnihhchgnkfcgaa
open Go.ChangeShapes Go.WideShapes Go.ChangeAt Go.RowKit
abbrev zspe : Obj := .cells #[.int .i64 0, .int .i64 0, .int .i64 0, .int .i64 0] 43
abbrev ospe (p : Spe) : Obj := .cells #[.int .i64 p.s.lo, .int .i64 p.s.hi, .int .i64 p.s.st, .int .i64 p.e] 43
theorem mk43 (dst : Option Tmp) (ty : TypeId) (pos : String) (after : Array Edge) (g : Option (Nat × Bool)) (ρ : Operand → Value) (W : World) :
    (execOp ρ ⟨dst, .alloc 43, ty, pos, after, g⟩).run Try.prog W = .ok (.value (Mild.ptrTo W.heap.size)) (W.alloc zspe) := by
  simp [go_sem, Mild.ptrTo]
/-- A span with an error stored into its new variable. -/
theorem st43 (ptr src : Tmp) (ty : TypeId) (pos : String) (after : Array Edge) (p : Spe) (a : Act) (b : Nat) (W : World) (h1 : Mild2.slot a ptr = Mild2.ptrTo b) (h2 : Mild2.slot a src = spe p) (hW : W.heap[b]? = some zspe) :
    ∃ u W', (execOp a.eval ⟨none, .store 43 (.tmp ptr) (.tmp src), ty, pos, after, none⟩).run Try.prog W = .ok u W' ∧ (u = .skip ∨ ∃ v, u = .value v) ∧ Mild2.Touch b W W' ∧ W'.heap[b]? = some (ospe p) := by
  have e1 : a.tmps[ptr]?.getD undef = .pointer (some ⟨b, 0, none⟩) := by rw [← Array.getD_eq_getD_getElem?]; exact h1
  have e2 : a.tmps[src]?.getD undef = .agg #[.int .i64 p.s.lo, .int .i64 p.s.hi, .int .i64 p.s.st, .int .i64 p.e] := by rw [← Array.getD_eq_getD_getElem?]; exact h2
  have c0 := Mild.cell_of_block hW
  have f0 := Mild.free_of_block hW
  have g0 := Joins.block_setCell (i := 0) hW (.int .i64 p.s.lo)
  have g1 := Joins.block_setCell (i := 1) g0 (.int .i64 p.s.hi)
  have g2 := Joins.block_setCell (i := 2) g1 (.int .i64 p.s.st)
  have g3 := Joins.block_setCell (i := 3) g2 (.int .i64 p.e)
  refine ⟨.skip, (((W.setCell ⟨b, 0, none⟩ (.int .i64 p.s.lo)).setCell ⟨b, 1, none⟩ (.int .i64 p.s.hi)).setCell ⟨b, 2, none⟩ (.int .i64 p.s.st)).setCell ⟨b, 3, none⟩ (.int .i64 p.e), ?_, .inl rfl, touch_trans (touch_trans (touch_trans (touch_setCell _ _ _ _) (touch_setCell _ _ _ _)) (touch_setCell _ _ _ _)) (touch_setCell _ _ _ _), ?_⟩
  · simp [go_sem, e1, e2, c0, f0]
  · rw [g3]; rfl
theorem wpList_st {P : Program} {ops : Array Oper} {Q : Exit → Act → World → Prop} {rest : List Oper} {a : Act} {w W' : World} {o : Oper} {u : Next} (hg : o.guard = none) (hd : o.dst = none) (hrun : (execOp a.eval o).run P w = .ok u W') (hu : u = .skip ∨ ∃ v, u = .value v)
    (h : wpList P ops Q rest a W') : wpList P ops Q (o :: rest) a w := by
  refine wpList_plain hg fun K hK => ?_
  unfold Oper.wp
  rw [hrun]
  have e : ∀ v, a.put o.dst v = a := fun v => by rw [hd]; rfl
  rcases hu with rfl | ⟨v, rfl⟩ <;> simp only [Oper.upon, e] <;> exact hK _ _ h
/-- The last store of such a region. -/
theorem tail43 {ops : Array Oper} {Q : Exit → Act → World → Prop} {rest : List Oper} {a : Act} {w : World} {ptr src : Tmp} {ty : TypeId} {pos : String} {after : Array Edge} (p : Spe) (b : Nat) (hW : w.heap[b]? = some zspe) (h1 : Mild2.slot a ptr = Mild2.ptrTo b) (h2 : Mild2.slot a src = spe p)
    (h : ∀ w', Mild2.Touch b w w' → w'.heap[b]? = some (ospe p) → wpList Try.prog ops Q rest a w') : wpList Try.prog ops Q (⟨none, .store 43 (.tmp ptr) (.tmp src), ty, pos, after, none⟩ :: rest) a w := by
  obtain ⟨u, W', hrun, hu, ht, hb⟩ := st43 ptr src ty pos after p a b w h1 h2 hW
  exact wpList_st rfl rfl hrun hu (h W' ht hb)
theorem is3_of {W : World} {b : Nat} {s : Sp} (h : W.heap[b]? = some (.cells #[.int .i64 s.lo, .int .i64 s.hi, .int .i64 s.st] 28)) : Is3 W b s :=
  ⟨by rw [Mild.cell_of_block h]; rfl, by rw [Mild.cell_of_block h]; rfl, by rw [Mild.cell_of_block h]; rfl⟩
theorem is43_of {W : World} {b : Nat} {p : Spe} (h : W.heap[b]? = some (ospe p)) : Is43 W b p :=
  ⟨⟨by rw [Mild.cell_of_block h]; rfl, by rw [Mild.cell_of_block h]; rfl, by rw [Mild.cell_of_block h]; rfl⟩, by rw [Mild.cell_of_block h]; rfl⟩
theorem is3_touch {W W' : World} {A b : Nat} {s : Sp} (h : Is3 W A s) (ht : Mild2.Touch b W W') (hne : A ≠ b) : Is3 W' A s := by
  have e : ∀ o, W'.cell? ⟨A, o, none⟩ = W.cell? ⟨A, o, none⟩ := fun o => by
    have h3 := ht.block A hne
    unfold World.cell?
    simp only [h3]
  exact ⟨(e 0).trans h.lo, (e 1).trans h.hi, (e 2).trans h.st⟩
theorem is43_touch {W W' : World} {A b : Nat} {s : Spe} (h : Is43 W A s) (ht : Mild2.Touch b W W') (hne : A ≠ b) : Is43 W' A s := by
  refine ⟨is3_touch h.s ht hne, ?_⟩
  rw [← h.e]
  have h3 := ht.block A hne
  unfold World.cell?
  simp only [h3]
/-- What the memory holds in a round behind the two spans. -/
structure SumB (C : World → Prop) (X Y : Nat) (P Q : Sp) (W : World) : Prop where
  sl : C W
  fx : Is3 W X P
  fy : Is3 W Y Q
theorem SumB.closed {C : World → Prop} {X Y : Nat} {P Q : Sp} (hC : ∀ w w', C w → Below w.heap.size w w' → C w') : ∀ w w', SumB C X Y P Q w → Below w.heap.size w w' → SumB C X Y P Q w' :=
  fun w w' h hb => ⟨hC _ _ h.sl hb, h.fx.step hb, h.fy.step hb⟩
theorem SumB.touch {C : World → Prop} {X Y Br : Nat} {P Q : Sp} (hC : ∀ W W' b, C W → Br ≤ b → Mild2.Touch b W W' → C W') (hX : X < Br) (hY : Y < Br) : ∀ W W' b, SumB C X Y P Q W → Br ≤ b → Mild2.Touch b W W' → SumB C X Y P Q W' :=
  fun W W' b h hb ht => ⟨hC _ _ _ h.sl hb ht, is3_touch h.fx ht (by omega), is3_touch h.fy ht (by omega)⟩
/-! ### Plain facts -/
theorem bounded_e (lo hi st : Int) : (boundedM lo hi st).e = 0 ∨ (boundedM lo hi st).e = 2 := by unfold boundedM; split <;> simp
theorem mem_near {s : Sp} (h : Vld s) {n : Int} (hn : Mem s n) : -9223372036854775808 ≤ n ∧ n ≤ 9223372036854775807 := by
  have := h.lo; have := h.hi; have := hn.1; have := hn.2.1; omega
theorem good_of {p : Spe} {z : Int} (he : p.e = 0 ∨ p.e = 2) (h : p.e = 0 → Vld p.s ∧ Mem p.s z) : Good p z := by
  rcases he with he | he
  · obtain ⟨h1, h2⟩ := h he
    obtain ⟨b1, b2⟩ := mem_near h1 h2
    exact .inl ⟨he, h1, (hasB_iff _ _).2 h2, b1, b2⟩
  · exact .inr he
theorem good_add {P Q : Sp} {a b : Int} (hP : Vld P) (hQ : Vld Q) (ha : Mem P a) (hb : Mem Q b) : Good (addM P Q) (a + b) :=
  good_of (bounded_e _ _ _) fun h => ⟨add_vld hP hQ h, add_mem h ha hb⟩
theorem good_sub {P Q : Sp} {a b : Int} (hP : Vld P) (hQ : Vld Q) (ha : Mem P a) (hb : Mem Q b) : Good (subM P Q) (a - b) :=
  good_of (bounded_e _ _ _) fun h => ⟨sub_vld hP hQ h, sub_mem hQ h ha hb⟩
theorem mul_e (s t : Sp) : (mulM s t).e = 0 ∨ (mulM s t).e = 2 := by unfold mulM; split <;> simp
theorem scale_e (s : Sp) (k : Int) : (scaleM s k).e = 0 ∨ (scaleM s k).e = 2 := by unfold scaleM; split <;> simp
theorem good_mul {P Q : Sp} {a b : Int} (hP : Vld P) (hQ : Vld Q) (ha : Mem P a) (hb : Mem Q b) : Good (mulM P Q) (a * b) :=
  good_of (mul_e _ _) fun h => ⟨mul_vld hP hQ h, mul_mem hP hQ h ha hb⟩
theorem good_scale {P : Sp} {k a : Int} (hP : Vld P) (ha : Mem P a) : Good (scaleM P k) (a * k) :=
  good_of (scale_e _ _) fun h => ⟨scale_vld hP h, scale_mem hP h ha⟩
theorem fit_p {P Q : Sp} (hP : Vld P) (hQ : Vld Q) (h : -1099511627776 ≤ P.lo + Q.lo) : FitP P Q (addM P Q) := by
  refine ⟨h, ?_⟩
  have ok := addM_ok hP hQ
  rcases bounded_e (P.lo + Q.lo) (P.hi + Q.hi) (gcdM P.st Q.st) with he | he
  · exact .inl ⟨he, (ok.1 he).2⟩
  · refine .inr ⟨he, ?_⟩
    by_cases h2 : P.hi + Q.hi ≤ 1099511627776
    · have := ok.2 ⟨h, h2⟩
      have h3 : (addM P Q).e = 2 := he
      omega
    · simpa using h2
theorem fit_q {P Q : Sp} (hP : Vld P) (hQ : Vld Q) : FitQ P Q (subM P Q) := by
  have ok := subM_ok hP hQ
  rcases bounded_e (P.lo - Q.hi) (P.hi - Q.lo) (gcdM P.st Q.st) with he | he
  · exact .inl ⟨he, ok.1 he⟩
  · have h3 : (subM P Q).e = 2 := he
    by_cases h1 : -1099511627776 ≤ P.lo - Q.hi
    · refine .inr (.inr ⟨he, h1, ?_⟩)
      by_cases h2 : P.hi - Q.lo ≤ 1099511627776
      · have := ok.2 ⟨h1, h2⟩
        omega
      · simpa using h2
    · exact .inr (.inl ⟨he, by simpa using h1⟩)
theorem pick_in {s : Sp} (hs : Vld s) (i : Int) : Mem s (pickM s i) := by
  obtain ⟨h1, h2, h3, h4⟩ := pick_bd i hs.st0 hs.le
  refine ⟨by unfold pickM; omega, by unfold pickM; omega, ?_⟩
  unfold pickM
  rw [show s.lo + s.st * (i % sizeM s) - s.lo = s.st * (i % sizeM s) by omega]
  exact Int.dvd_mul_right _ _

noncomputable def sumsRest : Code := navC [1, 1, 1, 1, 0, 1, 1, 1, 1, 0, 1, 1] (Try.f8.body.getD .skip)
set_option maxRecDepth 100000 in
set_option maxHeartbeats 8000000 in
theorem sums_rest_any (w : World) (L NN X Y : Nat) (l0 l1 l2 l3 P Q : Sp) (n0 n1 n2 i : Int) (x0 x1 x2 x3 x4 x6 x7 x8 x13 x14 x15 x16 x17 x18 x19 x20 x21 x22 x23 x24 x25 x26 x27 x28 x29 x30 x31 x32 x33 x34 x35 x36 x37 x38 x39 x40 x41 x42 x43 x44 x45 x46 x47 x48 x49 x50 x51 x52 x53 x54 x55 x56 x57 x58 x59 x60 x61 x62 x63 x64 x65 x66 x67 x68 x69 x70 x71 x72 x73 x74 x75 x76 x77 x78 x79 x80 x81 x82 x83 x84 x85 x86 x87 x88 x89 x90 x91 x92 x93 x94 x95 x96 x97 x98 x99 x100 x101 x102 x103 x104 x105 x106 x107 x108 x109 x110 x111 x112 x113 x114 x115 x116 x117 x118 x119 x120 x121 x122 x123 x124 x125 x126 x127 x128 x129 x130 x131 x132 x133 x134 x135 x136 x137 x138 x139 x140 x141 x142 x143 x144 x145 x146 x147 x148 x149 x150 x151 x152 x153 x154 x155 x156 x157 x158 x159 x160 x161 x162 x163 x164 x165 x166 x167 x168 x169 x170 x171 x172 x173 x174 x175 x176 x177 x178 x179 x180 x181 x182 x183 x184 x185 x186 x187 x188 x189 x190 x191 x192 x193 x194 x195 x196 x197 x198 x199 x200 x201 x202 x203 x204 : Value) (hP : Vld P) (hV : Vld Q) (bp1 : -549755813887 ≤ P.lo) (bq1 : -549755813887 ≤ Q.lo)
    (h00 : 0 ≤ n0) (h01 : n0 ≤ 65535) (h10 : 0 ≤ n1) (h11 : n1 ≤ 65535) (h20 : 0 ≤ n2) (h21 : n2 ≤ 65535) (Fr : FitR i (mulM P Q)) (W : World) (H0 : SumB (SL w L NN l0 l1 l2 l3 n0 n1 n2) X Y P Q W) (Q0 : Exit → Act → World → Prop)
    (hQ : ∀ (y13 y14 y15 y16 y17 y18 y19 y52 y53 y54 y55 y56 y57 y58 y59 y60 y61 y62 y63 y64 y65 y66 y67 y68 y69 y70 y71 y72 y73 y74 y75 y76 y77 y78 y79 y80 y81 y82 y83 y84 y85 y86 y87 y88 y89 y90 y91 y92 y93 y94 y95 y96 y97 y98 y99 y100 y101 y102 y103 y104 y105 y106 y107 y108 y109 y110 y111 y112 y113 y114 y115 y116 y117 y118 y119 y120 y121 y122 y123 y124 y125 y126 y127 y128 y129 y130 y131 y132 y133 y134 y135 y136 y137 y138 y139 y140 y141 y142 y143 y144 y145 y146 y147 y148 y149 y150 y151 y152 y153 y154 y155 y156 y157 y158 y159 y160 y161 y162 y163 y164 y165 y166 y167 y168 y169 y170 y171 y172 y173 y174 y175 y176 y177 y178 y179 y180 y181 y182 y183 y184 y185 y186 y187 y188 y189 y190 y191 y192 y193 y194 y195 y196 y197 y198 y199 y200 y201 y202 y203 : Value) (W' : World), Hid ((SL w L NN l0 l1 l2 l3 n0 n1 n2) W') → Q0 .normal ⟨List.toArray (x0 :: x1 :: x2 :: x3 :: x4 :: .pointer (some ⟨NN, 0, none⟩) :: x6 :: x7 :: x8 :: .int .i64 i :: .pointer (some ⟨X, 0, none⟩) :: .pointer (some ⟨Y, 0, none⟩) :: .int .i64 (n2 - 30000) :: y13 :: y14 :: y15 :: y16 :: y17 :: y18 :: y19 :: x20 :: x21 :: x22 :: x23 :: x24 :: x25 :: x26 :: x27 :: x28 :: x29 :: x30 :: x31 :: x32 :: x33 :: x34 :: x35 :: x36 :: x37 :: x38 :: x39 :: x40 :: x41 :: x42 :: x43 :: x44 :: x45 :: x46 :: x47 :: x48 :: x49 :: x50 :: x51 :: y52 :: y53 :: y54 :: y55 :: y56 :: y57 :: y58 :: y59 :: y60 :: y61 :: y62 :: y63 :: y64 :: y65 :: y66 :: y67 :: y68 :: y69 :: y70 :: y71 :: y72 :: y73 :: y74 :: y75 :: y76 :: y77 :: y78 :: y79 :: y80 :: y81 :: y82 :: y83 :: y84 :: y85 :: y86 :: y87 :: y88 :: y89 :: y90 :: y91 :: y92 :: y93 :: y94 :: y95 :: y96 :: y97 :: y98 :: y99 :: y100 :: y101 :: y102 :: y103 :: y104 :: y105 :: y106 :: y107 :: y108 :: y109 :: y110 :: y111 :: y112 :: y113 :: y114 :: y115 :: y116 :: y117 :: y118 :: y119 :: y120 :: y121 :: y122 :: y123 :: y124 :: y125 :: y126 :: y127 :: y128 :: y129 :: y130 :: y131 :: y132 :: y133 :: y134 :: y135 :: y136 :: y137 :: y138 :: y139 :: y140 :: y141 :: y142 :: y143 :: y144 :: y145 :: y146 :: y147 :: y148 :: y149 :: y150 :: y151 :: y152 :: y153 :: y154 :: y155 :: y156 :: y157 :: y158 :: y159 :: y160 :: y161 :: y162 :: y163 :: y164 :: y165 :: y166 :: y167 :: y168 :: y169 :: y170 :: y171 :: y172 :: y173 :: y174 :: y175 :: y176 :: y177 :: y178 :: y179 :: y180 :: y181 :: y182 :: y183 :: y184 :: y185 :: y186 :: y187 :: y188 :: y189 :: y190 :: y191 :: y192 :: y193 :: y194 :: y195 :: y196 :: y197 :: y198 :: y199 :: y200 :: y201 :: y202 :: y203 :: x204 :: []), []⟩ W')
    : Code.wp Try.prog sumsRest Q0 ⟨List.toArray (x0 :: x1 :: x2 :: x3 :: x4 :: .pointer (some ⟨NN, 0, none⟩) :: x6 :: x7 :: x8 :: .int .i64 i :: .pointer (some ⟨X, 0, none⟩) :: .pointer (some ⟨Y, 0, none⟩) :: .int .i64 (n2 - 30000) :: x13 :: x14 :: x15 :: x16 :: x17 :: x18 :: x19 :: x20 :: x21 :: x22 :: x23 :: x24 :: x25 :: x26 :: x27 :: x28 :: x29 :: x30 :: x31 :: x32 :: x33 :: x34 :: x35 :: x36 :: x37 :: x38 :: x39 :: x40 :: x41 :: x42 :: x43 :: x44 :: x45 :: x46 :: x47 :: x48 :: x49 :: x50 :: x51 :: x52 :: x53 :: x54 :: x55 :: x56 :: x57 :: x58 :: x59 :: x60 :: x61 :: x62 :: x63 :: x64 :: x65 :: x66 :: x67 :: x68 :: x69 :: x70 :: x71 :: x72 :: x73 :: x74 :: x75 :: x76 :: x77 :: x78 :: x79 :: x80 :: x81 :: x82 :: x83 :: x84 :: x85 :: x86 :: x87 :: x88 :: x89 :: x90 :: x91 :: x92 :: x93 :: x94 :: x95 :: x96 :: x97 :: x98 :: x99 :: x100 :: x101 :: x102 :: x103 :: x104 :: x105 :: x106 :: x107 :: x108 :: x109 :: x110 :: x111 :: x112 :: x113 :: x114 :: x115 :: x116 :: x117 :: x118 :: x119 :: x120 :: x121 :: x122 :: x123 :: x124 :: x125 :: x126 :: x127 :: x128 :: x129 :: x130 :: x131 :: x132 :: x133 :: x134 :: x135 :: x136 :: x137 :: x138 :: x139 :: x140 :: x141 :: x142 :: x143 :: x144 :: x145 :: x146 :: x147 :: x148 :: x149 :: x150 :: x151 :: x152 :: x153 :: x154 :: x155 :: x156 :: x157 :: x158 :: x159 :: x160 :: x161 :: x162 :: x163 :: x164 :: x165 :: x166 :: x167 :: x168 :: x169 :: x170 :: x171 :: x172 :: x173 :: x174 :: x175 :: x176 :: x177 :: x178 :: x179 :: x180 :: x181 :: x182 :: x183 :: x184 :: x185 :: x186 :: x187 :: x188 :: x189 :: x190 :: x191 :: x192 :: x193 :: x194 :: x195 :: x196 :: x197 :: x198 :: x199 :: x200 :: x201 :: x202 :: x203 :: x204 :: []), []⟩ W := by
  conv => arg 2; whnf
  have HQ := Lib.hid hQ; clear hQ
  have FR := Lib.hid Fr; clear Fr
  have p1 := hP.lo; have p2 := hP.hi; have p3 := hP.stle; have p4 := hP.le; have p5 := hP.st0
  have q1 := hV.lo; have q2 := hV.hi; have q3 := hV.stle; have q4 := hV.le; have q5 := hV.st0
  have lX := H0.fx.lt; have lY := H0.fy.lt
  have HC := Lib.hid H0; clear H0
  go_wp2_with fail
  refine Mild.region_mild 9 [] (SumB (SL w L NN l0 l1 l2 l3 n0 n1 n2) X Y P Q) (by kernel_rfl) 205 (by kernel_rfl) rfl (by simp) (SumB.closed Mild.Cls.closed) HC.out (by simp) ?H9
  apply Exists.intro
  refine ⟨?HW9, ?HT9⟩
  case HW9 =>
    intro W hW
    obtain ⟨g0, g1, g2⟩ := hW.fx
    obtain ⟨g3, g4, g5⟩ := hW.fy
    have g6 := hW.sl.cells (⟨NN, 0, none⟩, .int .u16 n0) (by simp)
    have g7 := hW.sl.cells (⟨NN, 1, none⟩, .int .u16 n1) (by simp)
    clear hW
    dsimp only at g6 g7
    simp only [List.take_succ_cons, List.take_zero]
    repeat (apply Mild.walkM_q rfl; (go_wp2_with (first | (go_at_call 18; (with_reducible refine (pick_any P n0 _ h00 h01 hP.st0 hP.le (by omega) (by omega) (by omega)).mono ?_); rintro e w1 ⟨rfl, hb⟩) | (go_at_call 18; (with_reducible refine (pick_any Q n1 _ h10 h11 hV.st0 hV.le (by omega) (by omega) (by omega)).mono ?_); rintro e w1 ⟨rfl, hb⟩))); (first | refine ⟨rfl, rfl, Below.refl _ _, ?_⟩ | refine ⟨rfl, rfl, hb, ?_⟩))
    exact Mild.walkM_end rfl
  case HT9 =>
    intro F w9 hC u1 u2
    clear u1 u2
    simp only [List.drop_succ_cons, List.drop_zero, Mild.putAll, List.foldl_cons, List.foldl_nil, Mild.ptrTo, Act.put, List.setIfInBounds_toArray, List.set_cons_zero, List.set_cons_succ]
    clear F HC lX lY
    have lX := hC.fx.lt; have lY := hC.fy.lt
    have HC := Lib.hid hC; clear hC
    go_wp2_with fail
    refine Mild2.region_mild 19 [⟨12, 15, zspe⟩, ⟨13, 16, zspe⟩, ⟨14, 17, zspe⟩, ⟨15, 18, zspe⟩] [⟨16, 12, 15, 2, 62, ospe (addM P Q)⟩, ⟨17, 13, 16, 5, 65, ospe (subM P Q)⟩, ⟨18, 14, 17, 8, 68, ospe (mulM P Q)⟩] (SumB (SL w L NN l0 l1 l2 l3 n0 n1 n2) X Y P Q) (by kernel_rfl) 205 (by kernel_rfl) rfl (by simp) (by simp) (by simp) (SumB.closed Mild.Cls.closed) (SumB.touch (cls_touch (cls_blocks HC.out.sl) HC.out.sl.big) lX lY) HC.out ?M10 ?H10
    case M10 => simp; exact ⟨mk43 _ _ _ _ _, mk43 _ _ _ _ _, mk43 _ _ _ _ _, mk43 _ _ _ _ _⟩
    apply Exists.intro
    refine ⟨?HW10, ?HS10, ?HT10⟩
    case HW10 =>
      intro W hW
      obtain ⟨g0, g1, g2⟩ := hW.fx
      obtain ⟨g3, g4, g5⟩ := hW.fy
      clear hW
      simp only [List.take_succ_cons, List.take_zero]
      repeat (apply walkM2_q rfl; (go_wp2_with (first | (go_at_call 32; (with_reducible refine (ladd_any P Q _ hP.bd hV.bd).mono ?_); rintro e w1 ⟨rfl, hb⟩) | (go_at_call 34; (with_reducible refine (lsub_any P Q _ hP.bd hV.bd).mono ?_); rintro e w1 ⟨rfl, hb⟩) | (go_at_call 36; (with_reducible refine (lmul_any P Q _ hP.bd hV.bd hP.stle hV.stle).mono ?_); rintro e w1 ⟨rfl, hb⟩) | (go_at_call 29; (with_reducible refine (lscale_any P (n2 - 30000) _ hP.bd hP.stle (by omega) (by omega)).mono ?_); rintro e w1 ⟨rfl, hb⟩))); (first | refine ⟨rfl, rfl, Below.refl _ _, ?_⟩ | refine ⟨rfl, rfl, hb, ?_⟩))
      repeat apply walkM2_m rfl
      exact walkM2_end rfl
    case HS10 =>
      intro st hst m hm hme o ho a bb W e1 e2 e3
      simp only [List.mem_cons, List.not_mem_nil, or_false] at hst hm
      rcases hst with rfl | rfl | rfl <;> rcases hm with rfl | rfl | rfl | rfl <;> first | (exact absurd hme (by decide)) | (simp at ho; subst ho; exact st43 _ _ _ _ _ _ a bb W e1 (e2.trans rfl) e3)
    case HT10 =>
      intro F w10 hC hheld hinj
      obtain ⟨hS1, hS⟩ := hheld ⟨12, 15, zspe⟩ (by simp)
      obtain ⟨hT1, hT⟩ := hheld ⟨13, 16, zspe⟩ (by simp)
      obtain ⟨hU1, hU⟩ := hheld ⟨14, 17, zspe⟩ (by simp)
      obtain ⟨hV1, hZ⟩ := hheld ⟨15, 18, zspe⟩ (by simp)
      have k3 : F 12 ≠ F 15 := hinj ⟨12, 15, zspe⟩ (by simp) ⟨15, 18, zspe⟩ (by simp) (by decide)
      have k5 : F 13 ≠ F 15 := hinj ⟨13, 16, zspe⟩ (by simp) ⟨15, 18, zspe⟩ (by simp) (by decide)
      have k6 : F 14 ≠ F 15 := hinj ⟨14, 17, zspe⟩ (by simp) ⟨15, 18, zspe⟩ (by simp) (by decide)
      clear hinj hheld
      simp only [Mild2.objFin, List.find?] at hS hT hU hZ
      simp only [List.drop_succ_cons, List.drop_zero, Mild2.putAll, List.foldl_cons, List.foldl_nil, Mild2.ptrTo, Act.put, List.setIfInBounds_toArray, List.set_cons_zero, List.set_cons_succ]
      dsimp only at hS1 hS hT1 hT hU1 hU hV1 hZ
      generalize F 12 = S at *
      generalize F 13 = T at *
      generalize F 14 = U at *
      generalize F 15 = V at *
      clear F
      refine tail43 (scaleM P (n2 - 30000)) V hZ rfl rfl ?_
      intro w11 ht hZ2
      have hN : SumC w (SL w L NN l0 l1 l2 l3 n0 n1 n2) X Y S T U V P Q (addM P Q) (subM P Q) (mulM P Q) (scaleM P (n2 - 30000)) w11 :=
        ⟨cls_touch (cls_blocks HC.out.sl) HC.out.sl.big _ _ V hC.sl hV1 ht, is3_touch hC.fx ht (by omega), is3_touch hC.fy ht (by omega), is43_touch (is43_of hS) ht k3, is43_touch (is43_of hT) ht k5, is43_touch (is43_of hU) ht k6, is43_of hZ2⟩
      clear ht hZ2 hZ hS hT hU hS1 hT1 hU1 hV1 k3 k5 k6 hC HC
      have HN := Lib.hid hN; clear hN
      go_upto_region 11 with fail
      refine sums11_any w (SL w L NN l0 l1 l2 l3 n0 n1 n2) Mild.Cls.closed X Y S T U V P Q (addM P Q) (subM P Q) (mulM P Q) (scaleM P (n2 - 30000)) i (n2 - 30000) (pickM P n0) (pickM Q n1) _ _ _ _ _ _ _ _ _ _ _ _ _ _ _ _ _ _ _ _ _ _ _ _ _ _ _ _ _ _ _ _ _ _ _ _ _ _ _ _ _ _ _ _ _ _ _ _ _ _ _ _ _ _ _ _ _ _ _ _ _ _ _ _ _ _ _ _ _ _ _ _ _ _ _ _ _ _ _ _ _ _ _ _ _ _ _ _ _ _ _ _ _ _ _ _ _ _ _ _ _ _ _ _ _ _ _ _ _ _ _ _ _ _ _ _ _ _ _ _ _ _ _ _ _ _ _ _ _ _ _ _ _ _ _ _ _ _ _ _ _ _ _ _ _ _ _ _ _ _ _ _ _ _ _ _ _ _ _ _ _ _ _ _ _ _ _ _ _ _ _ _ _ _ _ _ _ _ _ _ _ _ _ _ _ _ _ _ _ _ _ _ _ _ _ (good_add hP hV (pick_in hP n0) (pick_in hV n1)) (good_sub hP hV (pick_in hP n0) (pick_in hV n1)) (good_mul hP hV (pick_in hP n0) (pick_in hV n1)) (good_scale hP (pick_in hP n0)) _ HN.out _ ?_
      clear HN
      intro y72 y73 y74 y75 y76 y77 y78 y79 y80 y81 y82 y83 y84 y85 y86 y87 y88 y89 y90 y91 y92 y93 y94 y95 y96 y97 y98 y99 y100 y101 y102 y103 y104 y105 y106 y107 y108 y109 y110 y111 y112 y113 y114 y115 y116 y117 y118 y119 y120 y121 y122 y123 y124 y125 y126 y127 y128 y129 y130 y131 y132 y133 y134 y135 y136 y137 y138 y139 y140 y141 y142 y143 y144 y145 y146 y147 y148 W11 HN
      go_upto_region 14 with (go_at_call 24; refine (redge_any _).mono ?_; rintro e w' ⟨rfl, rfl⟩)
      refine sums14_any w (SL w L NN l0 l1 l2 l3 n0 n1 n2) Mild.Cls.closed X Y S T U V P Q (addM P Q) (subM P Q) (mulM P Q) (scaleM P (n2 - 30000)) i (n2 - 30000) (pickM P n0) (pickM Q n1) _ _ _ _ _ _ _ _ _ _ _ _ _ _ _ _ _ _ _ _ _ _ _ _ _ _ _ _ _ _ _ _ _ _ _ _ _ _ _ _ _ _ _ _ _ _ _ _ _ _ _ _ _ _ _ _ _ _ _ _ _ _ _ _ _ _ _ _ _ _ _ _ _ _ _ _ _ _ _ _ _ _ _ _ _ _ _ _ _ _ _ _ _ _ _ _ _ _ _ _ _ _ _ _ _ _ _ _ _ _ _ _ _ _ _ _ _ _ _ _ _ _ _ _ _ _ _ _ _ _ _ _ _ _ _ _ _ _ _ _ _ _ _ _ _ _ _ _ _ _ _ _ _ _ _ _ _ _ _ _ _ _ _ _ _ _ _ _ _ _ _ _ _ _ _ _ _ _ _ _ _ _ _ _ _ _ _ _ _ _ _ _ _ _ hP hV (fit_p hP hV (by omega)) (fit_q hP hV) FR.out _ HN.out _ ?_
      intro y151 y152 y153 y154 y155 y156 y157 y158 y159 y160 y161 y162 y163 y164 y165 y166 y167 y168 y169 y170 y171 y172 y173 y174 y175 y176 y177 y178 y179 y180 y181 y182 y183 y184 y185 y186 y187 y188 y189 y190 y191 y192 y193 y194 y195 y196 y197 y198 y199 y200 y201 y202 W14 HM
      clear HN
      have HE : Hid ((SL w L NN l0 l1 l2 l3 n0 n1 n2) W14) := Lib.hid HM.out.sl
      go_wp2_with fail
      apply HQ.out
      exact HE
end Go.Proofs.Ytnihhchgnkfcgaa

