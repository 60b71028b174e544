/- The text of a cost. -/
import Derived.Test.YtajccjbigcdkbaaGreatDoorMi
import Derived.Lib.ItoaLen
import Derived.Test.YtajccjbigcdkbaaGreatDoorTell
-- USEBDN
set_option linter.unusedSimpArgs false
set_option linter.unusedVariables false
namespace Go.Proofs.YtajccjbigcdkbaaGreatDoor
open Go.ChangeShapes Go.WideShapes Go.ChangeAt Go.RowKit
abbrev wds : Value := .agg #[.string ⟨#[105, 115, 115, 117, 101, 115]⟩, .string ⟨#[115, 99, 97, 108, 97, 114, 115]⟩, .string ⟨#[109, 111, 118, 101, 115]⟩, .string ⟨#[109, 97, 115, 107, 101, 100]⟩]
def wd : Nat → ByteArray
  | 0 => ⟨#[105, 115, 115, 117, 101, 115]⟩
  | 1 => ⟨#[115, 99, 97, 108, 97, 114, 115]⟩
  | 2 => ⟨#[109, 111, 118, 101, 115]⟩
  | _ => ⟨#[109, 97, 115, 107, 101, 100]⟩
theorem ixw0 (w : World) : (Instr.index 49 wds (.int .i64 0)).run Tryz.prog w = .ok (.string (wd 0)) w := by kernel_rfl
theorem ixw1 (w : World) : (Instr.index 49 wds (.int .i64 1)).run Tryz.prog w = .ok (.string (wd 1)) w := by kernel_rfl
theorem ixw2 (w : World) : (Instr.index 49 wds (.int .i64 2)).run Tryz.prog w = .ok (.string (wd 2)) w := by kernel_rfl
theorem ixw3 (w : World) : (Instr.index 49 wds (.int .i64 3)).run Tryz.prog w = .ok (.string (wd 3)) w := by kernel_rfl
/-- A row of the call's own, opened. -/
theorem own_open {W : World} {base : Nat} {e : TypeId} {v : Value} {k : Nat} {xs : List Value} (h : W.ownsRow base e 1 v (k + 1) xs) :
    ∃ g cap, v = .slice (some ⟨g, 0, none⟩) (k + 1) cap ∧ base ≤ g ∧ g < W.heap.size ∧ k + 1 ≤ cap ∧ ∀ (j : Nat) u, xs[j]? = some u → W.cell? ⟨g, j, none⟩ = some u := by
  rcases h.2 with ⟨_, h0⟩ | ⟨g, cap, cur, rfl, h1, h2, h3, _⟩
  · omega
  · refine ⟨g, cap, rfl, h1, Mild.lt_of_block h2, h3, fun j u hj => ?_⟩
    have := h.cells (g := g) rfl j u hj
    cases j with
    | zero => exact this
    | succ j => simpa [Addr.add] using this
/-- A part of the text of a cost. -/
def tx (i : Nat) (x : Int) : ByteArray := (wd i ++ ⟨#[32]⟩) ++ ⟨(Lib.itoa x).toArray⟩
theorem RowC.closed {w0 : World} {A : Nat} {xs : Array Value} {v : Value} {l : List ByteArray} (ht : Tabs w0) : ∀ W W', RowC w0 A xs v l W → Below W.heap.size W W' → RowC w0 A xs v l W' := fun W W' h hb => by
  have hB := h.below.trans (hb.mono (Nat.le_of_lt h.big))
  exact ⟨hB, Nat.lt_of_lt_of_le h.big hb.size, ht.below hB, by rw [hb.block A (Mild.lt_of_block h.fa)]; exact h.fa, own_below h.own hb⟩
set_option maxRecDepth 20000 in
theorem text5 (w0 W : World) (A : Nat) (hA : A ≤ w0.heap.size) (xs : Array Value) (v : Value) (l : List ByteArray) (hl : l.length ≤ 100) (ht0 : Tabs w0) (hC : RowC w0 A xs v l W) (i : Nat) (hi : i < 4) (x : Int) (hx : xs[i]? = some (.int .i64 x)) (h64 : In64 x)
    (hix : ∀ w, (Instr.index 49 wds (.int .i64 i)).run Tryz.prog w = .ok (.string (wd i)) w)
    (j0 j2 j6 j7 j8 j9 j10 j11 j12 j13 j14 j15 j16 j17 j18 j19 j20 j21 j22 j23 j24 j25 : Value) (Q0 : Exit → Act → World → Prop)
    (h0 : ∀ j11 j12 j13 j14 j15 j16 j17 j18 j19 j20 j21 j22 v' W', RowC w0 A xs v' (l ++ [tx i x]) W' → Q0 .normal { tmps := #[j0, pt A 0, j2, v', .int .i64 i, pt A i, j6, j7, j8, j9, j10, j11, j12, j13, j14, j15, j16, j17, j18, j19, j20, j21, j22, j23, j24, j25], defers := [] } W') :
    (navC [1, 1, 0, 1, 1, 1, 1, 1, 0, 1, 1] (Tryz.f13.body.getD .skip)).wp Tryz.prog Q0 { tmps := #[j0, pt A 0, j2, v, .int .i64 i, pt A i, j6, j7, j8, j9, j10, j11, j12, j13, j14, j15, j16, j17, j18, j19, j20, j21, j22, j23, j24, j25], defers := [] } W := by
  have hw8 : (wd i).size ≤ 8 := by
    match i, hi with
    | 0, _ => decide
    | 1, _ => decide
    | 2, _ => decide
    | 3, _ => decide
  have hq1 : ¬ 9223372036854775807 < (wd i).size + 1 := by omega
  have hdl := Lib.itoa_length_le x h64.1 h64.2
  have hq2 : ¬ 9223372036854775807 < (wd i).size + 1 + (Lib.itoa x).length := by omega
  clear hw8 hdl
  conv => arg 2; whnf
  refine Tell.region_told 11 [⟨10, 21, fun v lo hi W => ∃ b, v = .slice (some ⟨b, 0, none⟩) 1 1 ∧ lo ≤ b ∧ W.heap[b]? = some (.cells #[.string (tx i x)] 9)⟩] (RowC w0 A xs v l) (by kernel_rfl) [(10, 21)] rfl 26 (by kernel_rfl) rfl (by simp) (RowC.closed ht0) ?hR hC ?H
  case hR =>
    simp only [List.forall_mem_cons, List.not_mem_nil, false_imp_iff, implies_true, and_true]
    rintro v x y W W' ⟨b, h1, h2, h3⟩ hb
    exact ⟨b, h1, h2, by rw [hb.block b (Mild.lt_of_block h3)]; exact h3⟩
  apply Exists.intro
  refine ⟨?HW, ?HA, ?HT⟩
  case HW =>
    intro vals W hW
    have cA := (Mild.cell_of_block hW.fa i).trans hx
    have hWt := Lib.hid hW.tabs; clear hW
    simp only [List.take_succ_cons, List.take_zero]
    apply Tell.walk_q rfl rfl
    go_wp2
    refine ⟨rfl, rfl, Below.refl _ _, ?_⟩
    apply Tell.walk_q rfl rfl
    go_wp2_with (go_at_call 26; refine (words_any _).mono ?_; rintro e w1 ⟨rfl, hb⟩)
    refine ⟨rfl, rfl, hb, ?_⟩
    iterate 6 (apply Tell.walk_q rfl rfl; go_wp2; refine ⟨rfl, rfl, Below.refl _ _, ?_⟩)
    apply Tell.walk_q rfl rfl
    go_wp2_with (go_at_call 27; refine (itoa_any _ h64.1 h64.2 _ hWt.out).mono ?_; rintro e w1 ⟨rfl, hb⟩)
    refine ⟨rfl, rfl, hb, ?_⟩
    apply Tell.walk_q rfl rfl
    go_wp2
    refine ⟨rfl, rfl, Below.refl _ _, ?_⟩
    refine Tell.walk_t _ (List.mem_cons_self ..) rfl (by simp) ?_ ?_
    · intro _
      go_wp2
      exact ⟨rfl, rfl, (Below.refl _ _).alloc (Nat.le_refl _) _, W.heap.size, rfl, Nat.le_refl _, Mild.alloc_at _ _⟩
    · simp only [Act.put, List.setIfInBounds_toArray, List.set_cons_zero, List.set_cons_succ]
      exact Tell.walk_end rfl
  case HA => exact fun _ => rfl
  case HT =>
    intro vals lo hi w2 hC ht _
    simp only [List.forall_mem_cons, List.not_mem_nil, false_imp_iff, implies_true, and_true] at ht
    obtain ⟨⟨b, hv, hlo, hbb⟩, hB1, hB2, hB3⟩ := ht
    simp only [List.drop_succ_cons, List.drop_zero, hv]
    have hb9 := hC.big
    have hbl := Mild.lt_of_block hbb
    have hC' := Lib.hid hC; clear hC hv
    have hbb' := Lib.hid hbb; clear hbb
    obtain ⟨ti, hi9, hz0, hz1, hz2⟩ := info_parts info9
    go_wp2_with (at_builtin; refine wpList_append_own _ rfl _ _ 25 rfl (w0.heap.size + 1) 9 ti (.string ⟨#[]⟩) 1 16 Tryz.underlying25 hi9 hz0 hz1 hz2 rfl (by decide) _ _ _ rfl (hC'.out.own) ⟨b, 0, none⟩ 1 1 [.string (tx i x)] rfl rfl ?c1 ?c2 ?c3 ?c4 ?c5 ?_)
    case c1 =>
      intro j u hj
      match j, hj with
      | 0, hj => simp at hj; subst hj; exact Mild.cell_of_block hbb'.out 0
    case c2 => intro u hu; simp at hu; subst hu; rfl
    case c3 => unfold maxLen; omega
    case c4 => omega
    case c5 => have := hC'.out.big; omega
    · intro v' w3 hown' hgrow _
      have hlt := hC'.out.own.lt
      have hbg := hC'.out.big
      have hB2 : Below w0.heap.size w0 w3 := below_grown hC'.out.below hgrow (by omega) (fun k e => by have := hlt k e; omega)
      have hT2 := ht0.below hB2
      have hfa : w3.heap[A]? = some (.cells xs 23) := by
        rw [hgrow.block A (by have := Mild.lt_of_block hC'.out.fa; omega) (fun e => by have := hlt A e.symm; omega)]
        exact hC'.out.fa
      have hG : RowC w0 A xs v' (l ++ [tx i x]) w3 := ⟨hB2, by have := hgrow.size; omega, hT2, hfa, by simpa using hown'⟩
      go_wp2
      exact hG
/-- The text of a cost. -/
def textM (c : Co) : ByteArray := ⟨(Lib.join ([tx 0 c.a, tx 1 c.b, tx 2 c.c, tx 3 c.d].map (·.data.toList)) [44, 32]).toArray⟩
theorem tx_len (i : Nat) (hi : i < 4) (x : Int) (h : In64 x) : (tx i x).data.toList.length ≤ 40 := by
  have hd := Lib.itoa_length_le x h.1 h.2
  have hw8 : (wd i).data.toList.length ≤ 8 := by
    match i, hi with
    | 0, _ => decide
    | 1, _ => decide
    | 2, _ => decide
    | 3, _ => decide
  simp only [tx, ByteArray.data_append, Array.toList_append, List.length_append] at *
  simp at *
  omega
set_option maxRecDepth 20000 in
set_option maxHeartbeats 2000000 in
theorem text_any (c : Co) (w : World) (ht : Tabs w) (hc : Rng c) :
    Calls Tryz.prog 13 #[cov c] w fun e w' => e = .returned (.string (textM c)) ∧ Below w.heap.size w w' := by
  have i0 := ixp0
  have i1 := ixp1
  have i2 := ixp2
  have i3 := ixp3
  go_enter Tryz.func13, Tryz.ntmps13
  go_wp2_with (go_at_call 25; refine (parts_any _ _).mono ?_; rintro e w1 ⟨rfl, hb⟩)
  have hz := hb.size
  simp only [World.size_alloc] at hz
  have hB1 : Below w.heap.size w w1 := bup (w := w) (by (repeat' (first | (with_reducible exact Below.refl _ _) | (with_reducible assumption) | (with_reducible refine Below.alloc ?_ ?_ _) | (with_reducible refine Below.drew ?_) | (with_reducible refine bdn ?_ _) | (with_reducible refine Below.setCell ?_ ?_ _) | go_size))) hb (by go_size)
  have hC : RowC w w.heap.size (coc c) (.slice none 0 0) [] w1 :=
    ⟨hB1, by omega, ht.below hB1, by rw [hb.block _ (by go_size)]; exact Mild.alloc_at _ _, ⟨rfl, .inl ⟨rfl, rfl⟩⟩⟩
  clear hb hz hB1
  have hC' := Lib.hid hC; clear hC
  have hR := Lib.hid hc; clear hc
  have hT := Lib.hid ht; clear ht
  refine wp_loop_rounds 5 ?_
  rw [rounds_succ]
  go_upto_region 5 with (fail)
  refine text5 w _ w.heap.size (Nat.le_refl _) (coc c) _ _ (by simp) hT.out hC'.out 0 (by omega) c.a rfl hR.out.ha ixw0 _ _ _ _ _ _ _ _ _ _ _ _ _ _ _ _ _ _ _ _ _ _ _ ?_
  clear hC'
  intro j11 j12 j13 j14 j15 j16 j17 j18 j19 j20 j21 j22 v' W' hC
  have hC' := Lib.hid hC; clear hC
  go_wp2
  rw [rounds_succ]
  go_upto_region 5 with (fail)
  refine text5 w _ w.heap.size (Nat.le_refl _) (coc c) _ _ (by simp) hT.out hC'.out 1 (by omega) c.b rfl hR.out.hb ixw1 _ _ _ _ _ _ _ _ _ _ _ _ _ _ _ _ _ _ _ _ _ _ _ ?_
  clear hC'
  intro j11 j12 j13 j14 j15 j16 j17 j18 j19 j20 j21 j22 v' W' hC
  have hC' := Lib.hid hC; clear hC
  go_wp2
  rw [rounds_succ]
  go_upto_region 5 with (fail)
  refine text5 w _ w.heap.size (Nat.le_refl _) (coc c) _ _ (by simp) hT.out hC'.out 2 (by omega) c.c rfl hR.out.hc ixw2 _ _ _ _ _ _ _ _ _ _ _ _ _ _ _ _ _ _ _ _ _ _ _ ?_
  clear hC'
  intro j11 j12 j13 j14 j15 j16 j17 j18 j19 j20 j21 j22 v' W' hC
  have hC' := Lib.hid hC; clear hC
  go_wp2
  rw [rounds_succ]
  go_upto_region 5 with (fail)
  refine text5 w _ w.heap.size (Nat.le_refl _) (coc c) _ _ (by simp) hT.out hC'.out 3 (by omega) c.d rfl hR.out.hd ixw3 _ _ _ _ _ _ _ _ _ _ _ _ _ _ _ _ _ _ _ _ _ _ _ ?_
  clear hC'
  intro j11 j12 j13 j14 j15 j16 j17 j18 j19 j20 j21 j22 v' W' hC
  have hC' := Lib.hid hC; clear hC
  go_wp2
  rw [rounds_succ]
  have hB := hC'.out.below
  have hbg := hC'.out.big
  have hown : W'.ownsRow (w.heap.size + 1) 9 1 v' 4 ([tx 0 c.a, tx 1 c.b, tx 2 c.c, tx 3 c.d].map Value.string) := hC'.out.own
  obtain ⟨g', cap', rfl, hg1, hg2, hg3, hg4⟩ := own_open hown
  have h4 := Lib.hid hg4
  clear hC' hown hg4
  have hl0 := tx_len 0 (by omega) c.a hR.out.ha
  have hl1 := tx_len 1 (by omega) c.b hR.out.hb
  have hl2 := tx_len 2 (by omega) c.c hR.out.hc
  have hl3 := tx_len 3 (by omega) c.d hR.out.hd
  have HL := Lib.hid (And.intro hl0 (And.intro hl1 (And.intro hl2 hl3)))
  clear hl0 hl1 hl2 hl3
  go_wp2_with fail
  refine (Tryz.strings_Join _ 0 _ [tx 0 c.a, tx 1 c.b, tx 2 c.c, tx 3 c.d] _ _ ?j1 (by omega) (by simp) (by simpa using hg3) ?j5).mono ?_
  rotate_left 2
  · rintro e w2 ⟨rfl, hb⟩
    go_wp2
    go_ret
    exact ⟨rfl, hB.trans (hb.mono (by omega))⟩
  case j1 =>
    intro j x hj
    simp only [Nat.zero_add]
    exact h4.out j (.string x) (by rw [List.getElem?_map, hj]; rfl)
  case j5 =>
    obtain ⟨a1, a2, a3, a4⟩ := HL.out
    simp [Lib.join] at *
    omega
end Go.Proofs.YtajccjbigcdkbaaGreatDoor
