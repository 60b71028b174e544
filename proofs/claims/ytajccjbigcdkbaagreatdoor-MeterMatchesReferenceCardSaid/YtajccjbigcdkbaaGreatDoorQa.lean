/- Classes of worlds for the law with late stores, and the store of a cost into a new variable. -/
import Derived.Test.YtajccjbigcdkbaaGreatDoorMb
set_option linter.unusedSimpArgs false
set_option linter.unusedVariables false
namespace Go.Proofs.YtajccjbigcdkbaaGreatDoor
open Go.RowKit
theorem bks_touch {B Br : Nat} {w0 : World} {bs : List (Nat × Obj)} (h0 : ∀ p ∈ bs, p.1 < Br) (hB : B ≤ Br) :
    ∀ W W' b, Mild.Bks B w0 bs W → Br ≤ b → Mild2.Touch b W W' → Mild.Bks B w0 bs W' := fun W W' b h hb ht =>
  ⟨⟨by rw [ht.os]; exact h.below.os, by rw [ht.tape]; exact h.below.tape, by rw [ht.output]; exact h.below.output, by rw [ht.size]; exact h.below.size, fun k hk => by rw [ht.block k (by omega)]; exact h.below.block k hk⟩,
    by rw [ht.size]; exact h.big, fun p hp => by
      rw [ht.block p.1 (by have := h0 p hp; omega)]; exact h.blocks p hp⟩
theorem touch_setCell (W : World) (b o : Nat) (v : Value) : Mild2.Touch b W (W.setCell ⟨b, o, none⟩ v) :=
  ⟨rfl, rfl, rfl, by simp [World.setCell], fun k hk => Below.heap_setCell W ⟨b, o, none⟩ v k hk⟩
theorem touch_trans {b : Nat} {W W' W'' : World} (h : Mild2.Touch b W W') (h' : Mild2.Touch b W' W'') : Mild2.Touch b W W'' :=
  ⟨h'.os.trans h.os, h'.tape.trans h.tape, h'.output.trans h.output, h'.size.trans h.size, fun k hk => (h'.block k hk).trans (h.block k hk)⟩
abbrev zob : Obj := .cells #[.int .i64 0, .int .i64 0, .int .i64 0, .int .i64 0] 23
/-- A cost stored into its new variable. -/
theorem st26 (ptr src : Tmp) (ty : TypeId) (pos : String) (after : Array Edge) (c : Co) (a : Act) (b : Nat) (W : World) (h1 : Mild2.slot a ptr = Mild2.ptrTo b) (h2 : Mild2.slot a src = cov c) (hW : W.heap[b]? = some zob) :
    ∃ u W', (execOp a.eval ⟨none, .store 23 (.tmp ptr) (.tmp src), ty, pos, after, none⟩).run Tryz.prog W = .ok u W' ∧ (u = .skip ∨ ∃ v, u = .value v) ∧ Mild2.Touch b W W' ∧ W'.heap[b]? = some (.cells (coc c) 23) := by
  have e1 : a.tmps[ptr]?.getD undef = .pointer (some ⟨b, 0, none⟩) := by rw [← Array.getD_eq_getD_getElem?]; exact h1
  have e2 : a.tmps[src]?.getD undef = .agg #[.int .i64 c.a, .int .i64 c.b, .int .i64 c.c, .int .i64 c.d] := by rw [← Array.getD_eq_getD_getElem?]; exact h2
  have c0 := Mild.cell_of_block hW
  have f0 := Mild.free_of_block hW
  have g0 := Joins.block_setCell (i := 0) hW (.int .i64 c.a)
  have g1 := Joins.block_setCell (i := 1) g0 (.int .i64 c.b)
  have g2 := Joins.block_setCell (i := 2) g1 (.int .i64 c.c)
  have g3 := Joins.block_setCell (i := 3) g2 (.int .i64 c.d)
  refine ⟨.skip, (((W.setCell ⟨b, 0, none⟩ (.int .i64 c.a)).setCell ⟨b, 1, none⟩ (.int .i64 c.b)).setCell ⟨b, 2, none⟩ (.int .i64 c.c)).setCell ⟨b, 3, none⟩ (.int .i64 c.d), ?_, .inl rfl, touch_trans (touch_trans (touch_trans (touch_setCell _ _ _ _) (touch_setCell _ _ _ _)) (touch_setCell _ _ _ _)) (touch_setCell _ _ _ _), ?_⟩
  · simp [go_sem, e1, e2, c0, f0]
  · rw [g3]; rfl
/-- The law in one existence: the frame in which the walk ends is found by it. -/
theorem Mild2.region_mild {P : Program} {id : Nat} {Q : Exit → Act → World → Prop} {a0 : Act} {w : World} {l : List Oper} (n : Nat) (mks : List Mild2.Maker) (sts : List Mild2.Storer) (C : World → Prop) (hm : P.follows .mixedOrders = true)
    (sz : Nat) (hB : Mild2.mildB l.toArray n mks sts sz = true) (hsz : a0.tmps.size = sz) (hu : ∀ m ∈ mks, ∀ m' ∈ mks, m'.idx = m.idx → m' = m)
    (hus : ∀ s ∈ sts, ∀ s' ∈ sts, s.own = s'.own → s = s') (hui : ∀ s ∈ sts, ∀ s' ∈ sts, s.idx = s'.idx → s = s')
    (hC : ∀ w w', C w → Below w.heap.size w w' → C w') (hCt : ∀ W W' b, C W → w.heap.size ≤ b → Mild2.Touch b W W' → C W') (h0 : C w)
    (HM : ∀ m ∈ mks, ∀ o, l.toArray[m.idx]? = some o → ∀ ρ W, (execOp ρ o).run P W = .ok (.value (Mild2.ptrTo W.heap.size)) (W.alloc m.obj))
    (H : ∃ aU, (∀ W, C W → Mild2.walkM P l.toArray mks sts W aU 0 (l.take n) a0) ∧
      (∀ s ∈ sts, ∀ m ∈ mks, m.idx = s.own → ∀ o, l.toArray[s.idx]? = some o → ∀ (a : Act) (b : Nat) (W : World), Mild2.slot a s.ptr = Mild2.ptrTo b → Mild2.slot a s.src = Mild2.slot aU s.src → W.heap[b]? = some m.obj → ∃ u W', (execOp a.eval o).run P W = .ok u W' ∧ (u = .skip ∨ ∃ v, u = .value v) ∧ Mild2.Touch b W W' ∧ W'.heap[b]? = some s.obj) ∧
      ∀ (F : Nat → Nat) (w' : World), C w' → (∀ m ∈ mks, w.heap.size ≤ F m.idx ∧ w'.heap[F m.idx]? = some (Mild2.objFin sts m)) → (∀ m ∈ mks, ∀ m' ∈ mks, m.idx ≠ m'.idx → F m.idx ≠ F m'.idx) → wpList P l.toArray Q (l.drop n) (Mild2.putAll F mks aU) w') :
    (Code.region id l.toArray true).wp P Q a0 w :=
  let ⟨aU, h1, h2, h3⟩ := H
  Mild2.wp_region_mild (w := w) n mks C aU hm sts sz hB hsz hu hC h0 HM hCt hus hui h1 h2 h3
theorem walkM2_q {P : Program} {ops : Array Oper} {mks : List Mild2.Maker} {sts : List Mild2.Storer} {W : World} {aU a : Act} {k : Nat} {o : Oper} {rest : List Oper} (h : Mild2.isSk mks sts k = false) (h2 : wpList P ops (Mild2.MQ W a (Mild2.walkM P ops mks sts W aU (k + 1) rest)) [o] a W) :
    Mild2.walkM P ops mks sts W aU k (o :: rest) a := by
  unfold Mild2.walkM; rw [if_neg (by simp [h])]; exact h2
theorem walkM2_m {P : Program} {ops : Array Oper} {mks : List Mild2.Maker} {sts : List Mild2.Storer} {W : World} {aU a : Act} {k : Nat} {o : Oper} {rest : List Oper} (h : Mild2.isSk mks sts k = true) (h2 : Mild2.walkM P ops mks sts W aU (k + 1) rest a) :
    Mild2.walkM P ops mks sts W aU k (o :: rest) a := by
  unfold Mild2.walkM; rw [if_pos h]; exact h2
theorem walkM2_end {P : Program} {ops : Array Oper} {mks : List Mild2.Maker} {sts : List Mild2.Storer} {W : World} {aU a : Act} {k : Nat} (h : a = aU) : Mild2.walkM P ops mks sts W aU k [] a := h
end Go.Proofs.YtajccjbigcdkbaaGreatDoor
