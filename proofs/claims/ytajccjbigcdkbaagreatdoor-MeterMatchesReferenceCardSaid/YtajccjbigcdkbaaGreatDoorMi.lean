/- Row: the words of a line. -/
import Derived.Test.YtajccjbigcdkbaaGreatDoorMh
import Derived.Laws.AppendOwn
-- USEBDN
set_option linter.unusedSimpArgs false
set_option linter.unusedVariables false
namespace Go.Proofs.YtajccjbigcdkbaaGreatDoor
open Go.ChangeShapes Go.WideShapes Go.ChangeAt Go.RowKit
theorem own_below {w w' : World} {base : Nat} {e : TypeId} {size : Nat} {v : Value} {n : Nat} {xs : List Value} (h : w.ownsRow base e size v n xs) (hb : Below w.heap.size w w') : w'.ownsRow base e size v n xs := by
  refine ⟨h.1, ?_⟩
  rcases h.2 with hn | ⟨g, cap, cur, rfl, hb', hgg, rest⟩
  · exact .inl hn
  · refine .inr ⟨g, cap, cur, rfl, hb', ?_, rest⟩
    rw [hb.block g (Mild.lt_of_block hgg)]; exact hgg
theorem own_mono {w : World} {base base' : Nat} {e : TypeId} {size : Nat} {v : Value} {n : Nat} {xs : List Value} (h : w.ownsRow base e size v n xs) (hb : base' ≤ base) : w.ownsRow base' e size v n xs :=
  ⟨h.1, h.2.imp id fun ⟨g, cap, cur, h1, h2, h3⟩ => ⟨g, cap, cur, h1, Nat.le_trans hb h2, h3⟩⟩
theorem own_one (w : World) (cs : Array Value) (n : Nat) (hm : n ≤ maxLen) (hs : cs.size = n) (base : Nat) (e : TypeId) (hb : base ≤ w.heap.size) :
    (w.alloc (.cells cs e)).ownsRow base e 1 (.slice (some ⟨w.heap.size, 0, none⟩) n n) n cs.toList :=
  ⟨by simp [hs], .inr ⟨w.heap.size, n, cs, rfl, hb, Mild.alloc_at _ _, Nat.le_refl _, hm, by simp [hs], by rw [Nat.mul_one, ← hs]; simp [List.take_of_length_le]⟩⟩
theorem below_grown {B : Nat} {w0 w w' : World} {row : Option Nat} (h : Below B w0 w) (hg : w.grownBy w' row) (hB : B ≤ w.heap.size) (hr : ∀ k, row = some k → B ≤ k) : Below B w0 w' :=
  ⟨hg.os.trans h.os, hg.tape.trans h.tape, hg.output.trans h.output, Nat.le_trans h.size hg.size, fun k hk => (hg.block k (by omega) (fun e => by have := hr k e.symm; omega)).trans (h.block k hk)⟩
theorem info9 : (Tryz.prog.info? 9).map (fun i => (i.zero, i.size, i.bytes)) = some (some (.string ⟨#[]⟩), 1, 16) := by kernel_rfl

/-- The words of a line. -/
def dig (n : Int) : ByteArray := ⟨(Lib.itoa n).toArray⟩
def rowM (name : ByteArray) (c : Co) : List ByteArray := [name, dig c.a, dig c.b, dig c.c, dig c.d]
abbrev In64 (n : Int) : Prop := -9223372036854775808 ≤ n ∧ n ≤ 9223372036854775807
structure Rng (x : Co) : Prop where
  ha : In64 x.a
  hb : In64 x.b
  hc : In64 x.c
  hd : In64 x.d
/-- While a row is being made: what was below, the cost, the words so far. -/
theorem Tabs.keep {w0 W w2 : World} (h0 : Tabs w0) (h : Below w0.heap.size w0 w2) : Tabs w2 := h0.below h
structure RowC (w0 : World) (A : Nat) (xs : Array Value) (v : Value) (l : List ByteArray) (W : World) : Prop where
  below : Below w0.heap.size w0 W
  big : w0.heap.size < W.heap.size
  tabs : Tabs W
  fa : W.heap[A]? = some (.cells xs 23)
  own : W.ownsRow (w0.heap.size + 1) 9 1 v l.length (l.map Value.string)
set_option maxRecDepth 20000 in
theorem row5 (w0 W : World) (A : Nat) (hA : A ≤ w0.heap.size) (xs : Array Value) (v : Value) (l : List ByteArray) (hl : l.length ≤ 100) (ht0 : Tabs w0) (hC : RowC w0 A xs v l W) (i : Nat) (hi : i < 4) (x : Int) (hx : xs[i]? = some (.int .i64 x)) (h64 : In64 x)
    (j0 j1 j2 j3 j4 j6 j8 j9 j10 j11 j12 j13 j14 j15 j16 j17 j18 j19 j20 j21 j22 : Value) (Q0 : Exit → Act → World → Prop)
    (h0 : ∀ j14 j15 j16 j17 j18 j19 j20 v' W', RowC w0 A xs v' (l ++ [dig x]) W' → Q0 .normal { tmps := #[j0, j1, j2, j3, j4, v', j6, pt A i, j8, j9, j10, j11, j12, j13, j14, j15, j16, j17, j18, j19, j20, j21, j22], defers := [] } W') :
    (navC [1, 1, 0, 1, 1, 1, 1, 1, 0, 1, 1] (Tryz.f47.body.getD .skip)).wp Tryz.prog Q0 { tmps := #[j0, j1, j2, j3, j4, v, j6, pt A i, j8, j9, j10, j11, j12, j13, j14, j15, j16, j17, j18, j19, j20, j21, j22], defers := [] } W := by
  conv => arg 2; whnf
  have cA := (Mild.cell_of_block hC.fa i).trans hx
  have hC' := Lib.hid hC; clear hC
  obtain ⟨ti, hi9, hz0, hz1, hz2⟩ := info_parts info9
  go_wp2_with (first | (go_at_call 27; refine (itoa_any _ h64.1 h64.2 _ hC'.out.tabs).mono ?_; rintro e w1 ⟨rfl, hb⟩) | (at_builtin; go_loud (refine wpList_append_own _ rfl _ _ 25 rfl (w0.heap.size + 1) 9 ti (.string ⟨#[]⟩) 1 16 Tryz.underlying25 hi9 hz0 hz1 hz2 rfl (by decide) _ _ _ rfl ((own_below hC'.out.own hb).alloc _) ⟨w1.heap.size, 0, none⟩ 1 1 [.string (dig x)] rfl rfl ?c1 ?c2 ?c3 ?c4 ?c5 ?_)))
  case c1 =>
    intro j u hj
    match j, hj with
    | 0, hj => simp at hj; subst hj; simp [Addr.add, dig]
  case c2 => intro u hu; simp at hu; subst hu; rfl
  case c3 => unfold maxLen; omega
  case c4 => omega
  case c5 => have := hC'.out.big; have := hb.size; simp; omega
  · intro v' w2 hown' hgrow _
    have hd : (⟨(Lib.itoa x).toArray⟩ : ByteArray) = dig x := rfl
    have hlt := hC'.out.own.lt
    have hbg := hC'.out.big
    have hz := hb.size
    have hB2 : Below w0.heap.size w0 w2 := below_grown ((hC'.out.below.trans (hb.mono (by omega))).alloc (by omega) _) hgrow (by simp; omega) (fun k e => by have := hlt k e; omega)
    have hBw : Below w0.heap.size w1 w2 := below_grown ((Below.refl _ _).alloc (by omega) _) hgrow (by simp; omega) (fun k e => by have := hlt k e; omega)
    have hT2 := ht0.below hB2
    have hfa : w2.heap[A]? = some (.cells xs 23) := by
      rw [hgrow.block A (by have := Mild.lt_of_block hC'.out.fa; simp; omega) (fun e => by have := hlt A e.symm; omega)]
      exact Mild.alloc_lt _ (by rw [hb.block A (Mild.lt_of_block hC'.out.fa)]; exact hC'.out.fa)
    have hG : RowC w0 A xs v' (l ++ [dig x]) w2 := ⟨hB2, by have := hgrow.size; simp at this; omega, hT2, hfa, by simpa using hown'⟩
    go_wp2
    exact hG
set_option maxRecDepth 20000 in
set_option maxHeartbeats 2000000 in
theorem row_any (name : ByteArray) (c : Co) (w : World) (ht : Tabs w) (hc : Rng c) :
    Calls Tryz.prog 47 #[.string name, cov c] w fun e w' => ∃ v, e = .returned v ∧ w'.ownsRow w.heap.size 9 1 v 5 ((rowM name c).map Value.string) ∧ Below w.heap.size w w' := by
  have i0 := ixp0
  have i1 := ixp1
  have i2 := ixp2
  have i3 := ixp3
  go_enter Tryz.func47, Tryz.ntmps47
  go_wp2_with (go_at_call 25; refine (parts_any _ _).mono ?_; rintro e w1 ⟨rfl, hb⟩)
  have hz := hb.size
  simp only [World.size_alloc] at hz
  have hB1 : Below w.heap.size w w1 := bup (w := w) (by (repeat' (first | (with_reducible exact Below.refl _ _) | (with_reducible assumption) | (with_reducible refine Below.alloc ?_ ?_ _) | (with_reducible refine Below.drew ?_) | (with_reducible refine bdn ?_ _) | (with_reducible refine Below.setCell ?_ ?_ _) | go_size))) hb (by go_size)
  have hC : RowC w w.heap.size (coc c) (.slice (some ⟨w.heap.size + 1, 0, none⟩) 1 1) [name] w1 :=
    ⟨hB1, by omega, ht.below hB1, by rw [hb.block _ (by go_size)]; exact Mild.alloc_lt _ (Mild.alloc_at _ _), own_below (by have := own_one (w.alloc (.cells (coc c) 23)) #[.string name] 1 (by unfold maxLen; omega) rfl (w.heap.size + 1) 9 (by simp); rw [World.size_alloc] at this; exact this) hb⟩
  clear hb hz hB1
  have hC' := Lib.hid hC; clear hC
  have hR := Lib.hid hc; clear hc
  have hT := Lib.hid ht; clear ht
  refine wp_loop_rounds 5 ?_
  rw [rounds_succ]
  go_upto_region 5 with (fail)
  refine row5 w _ w.heap.size (Nat.le_refl _) (coc c) _ _ (by simp) hT.out hC'.out 0 (by omega) c.a rfl hR.out.ha _ _ _ _ _ _ _ _ _ _ _ _ _ _ _ _ _ _ _ _ _ _ ?_
  clear hC'
  intro j14 j15 j16 j17 j18 j19 j20 v' W' hC
  have hC' := Lib.hid hC; clear hC
  go_wp2
  rw [rounds_succ]
  go_upto_region 5 with (fail)
  refine row5 w _ w.heap.size (Nat.le_refl _) (coc c) _ _ (by simp) hT.out hC'.out 1 (by omega) c.b rfl hR.out.hb _ _ _ _ _ _ _ _ _ _ _ _ _ _ _ _ _ _ _ _ _ _ ?_
  clear hC'
  intro j14 j15 j16 j17 j18 j19 j20 v' W' hC
  have hC' := Lib.hid hC; clear hC
  go_wp2
  rw [rounds_succ]
  go_upto_region 5 with (fail)
  refine row5 w _ w.heap.size (Nat.le_refl _) (coc c) _ _ (by simp) hT.out hC'.out 2 (by omega) c.c rfl hR.out.hc _ _ _ _ _ _ _ _ _ _ _ _ _ _ _ _ _ _ _ _ _ _ ?_
  clear hC'
  intro j14 j15 j16 j17 j18 j19 j20 v' W' hC
  have hC' := Lib.hid hC; clear hC
  go_wp2
  rw [rounds_succ]
  go_upto_region 5 with (fail)
  refine row5 w _ w.heap.size (Nat.le_refl _) (coc c) _ _ (by simp) hT.out hC'.out 3 (by omega) c.d rfl hR.out.hd _ _ _ _ _ _ _ _ _ _ _ _ _ _ _ _ _ _ _ _ _ _ ?_
  clear hC'
  intro j14 j15 j16 j17 j18 j19 j20 v' W' hC
  have hC' := Lib.hid hC; clear hC
  go_wp2
  rw [rounds_succ]
  go_wp2
  go_ret
  exact ⟨_, rfl, own_mono hC'.out.own (by omega), hC'.out.below⟩
end Go.Proofs.YtajccjbigcdkbaaGreatDoor
