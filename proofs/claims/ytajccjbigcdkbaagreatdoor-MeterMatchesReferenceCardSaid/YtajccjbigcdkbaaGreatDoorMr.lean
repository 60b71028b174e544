/- A report: the table grows by a row. -/
import Derived.Test.YtajccjbigcdkbaaGreatDoorMp
import Derived.Test.YtajccjbigcdkbaaGreatDoorMn
-- USEBDN
set_option linter.unusedSimpArgs false
set_option linter.unusedVariables false
namespace Go.Proofs.YtajccjbigcdkbaaGreatDoor
open Go.ChangeShapes Go.WideShapes Go.ChangeAt Go.RowKit
theorem own_apart {W : World} {b1 b2 s1 s2 n1 n2 : Nat} {e1 e2 : TypeId} {v1 v2 : Value} {x1 x2 : List Value} (h1 : W.ownsRow b1 e1 s1 v1 n1 x1) (h2 : W.ownsRow b2 e2 s2 v2 n2 x2) (hne : e1 ≠ e2) : v1.ownBlock = none ∨ v1.ownBlock ≠ v2.ownBlock := by
  rcases h1.2 with ⟨rfl, _⟩ | ⟨g, cap, cur, rfl, _, hg, _⟩
  · exact .inl rfl
  · rcases h2.2 with ⟨rfl, _⟩ | ⟨g', cap', cur', rfl, _, hg', _⟩
    · exact .inr (by simp [Value.ownBlock])
    · refine .inr fun e => ?_
      simp only [Value.ownBlock, Option.some.injEq] at e
      subst e
      rw [hg] at hg'
      cases hg'
      exact hne rfl
theorem info41 : (Tryz.prog.info? 25).map (fun i => (i.zero, i.size, i.bytes)) = some (some (.slice none 0 0), 1, 24) := by kernel_rfl
/-- A table of the call's own, its rows of its own. -/
structure TC (w0 : World) (tv : Value) (rows : List (List ByteArray)) (vs : List Value) (W : World) : Prop where
  below : Below w0.heap.size w0 W
  big : w0.heap.size ≤ W.heap.size
  tab : W.ownsRow w0.heap.size 25 1 tv rows.length vs
  row : ∀ (k : Nat) r, rows[k]? = some r → r.length = 5 ∧ ∃ v, vs[k]? = some v ∧ W.ownsRow w0.heap.size 9 1 v 5 (r.map Value.string)
theorem TC.closed {w0 : World} {tv : Value} {rows : List (List ByteArray)} {vs : List Value} {W W' : World} (h : TC w0 tv rows vs W) (hb : Below W.heap.size W W') : TC w0 tv rows vs W' :=
  ⟨h.below.trans (hb.mono h.big), Nat.le_trans h.big hb.size, own_below h.tab hb, fun k r hr => let ⟨h5, v, h1, h2⟩ := h.row k r hr; ⟨h5, v, h1, own_below h2 hb⟩⟩
theorem TC.len {w0 : World} {tv : Value} {rows : List (List ByteArray)} {vs : List Value} {W : World} (h : TC w0 tv rows vs W) : vs.length = rows.length := by have := h.tab.1; omega
/-- The table after an append. -/
theorem TC.more {w0 : World} {tv tv' v : Value} {rows : List (List ByteArray)} {r : List ByteArray} {vs : List Value} {W W' : World} (h : TC w0 tv rows vs W) (hr5 : r.length = 5) (hv : W.ownsRow w0.heap.size 9 1 v 5 (r.map Value.string))
    (hown : W'.ownsRow w0.heap.size 25 1 tv' (rows.length + 1) (vs ++ [v])) (hg : W.grownBy W' tv.ownBlock) : TC w0 tv' (rows ++ [r]) (vs ++ [v]) W' := by
  have hlen := h.len
  refine ⟨below_grown h.below hg h.big (fun k e => (h.tab.lt k e).1), Nat.le_trans h.big hg.size, by rw [List.length_append]; exact hown, fun k x hx => ?_⟩
  by_cases hk : k < rows.length
  · rw [List.getElem?_append_left hk] at hx
    obtain ⟨h5, u, h1, h2⟩ := h.row k x hx
    exact ⟨h5, u, by rw [List.getElem?_append_left (by omega)]; exact h1, h2.kept hg (own_apart h2 h.tab (by decide))⟩
  · rw [List.getElem?_append_right (by omega)] at hx
    have hk0 : k - rows.length = 0 := by
      rcases Nat.eq_zero_or_pos (k - rows.length) with h0 | h0
      · exact h0
      · rw [List.getElem?_eq_none (by simp; omega)] at hx; cases hx
    rw [hk0] at hx
    simp only [List.getElem?_cons_zero, Option.some.injEq] at hx
    subst hx
    refine ⟨hr5, v, ?_, hv.kept hg (own_apart hv h.tab (by decide))⟩
    rw [List.getElem?_append_right (by omega), show k - vs.length = 0 by omega]; rfl
theorem row_len (name : ByteArray) (c : Co) : (rowM name c).length = 5 := rfl
def IsRow (w0 : World) (r : List ByteArray) (v : Value) (lo hi : Nat) (W : World) : Prop := W.ownsRow w0.heap.size 9 1 v 5 (r.map Value.string)
def IsOne (w0 : World) (r : List ByteArray) (v : Value) (lo hi : Nat) (W : World) : Prop := ∃ b u, v = .slice (some ⟨b, 0, none⟩) 1 1 ∧ W.heap[b]? = some (.cells #[u] 25) ∧ u.oneCell' = true ∧ W.ownsRow w0.heap.size 9 1 u 5 (r.map Value.string)

set_option maxRecDepth 100000 in
set_option maxHeartbeats 2000000 in
theorem rep10 (w0 W : World) (ht0 : Tabs w0) (tv : Value) (rows : List (List ByteArray)) (vs : List Value) (hC : TC w0 tv rows vs W) (hrl : rows.length ≤ 2000) (A : Nat) (c : Co) (hA : W.heap[A]? = some (.cells (coc c) 23)) (hAB : w0.heap.size ≤ A) (hR : Rng c)
    (nb no nn ncap k : Nat) (hk : k < nn) (hnn : nn ≤ 1000) (x : ByteArray) (hnb : nb < w0.heap.size) (hx : w0.cell? ⟨nb, no + k, none⟩ = some (.string x))
    (j1 j2 j3 j4 j5 j6 j10 j11 j12 j13 j14 j15 j16 j17 j18 j19 j20 j21 j22 j23 j24 j25 j26 j27 j28 j29 j30 j31 j32 j33 j34 j35 j36 j37 j38 j39 j40 j41 j42 j43 j44 j45 j46 j47 j48 j49 j50 j51 j52 j53 j54 j55 j56 j57 j58 j59 j60 j61 j62 j63 j64 j65 j66 j67 j68 j69 j70 j71 j72 j73 j74 j75 j76 j77 j78 j79 j80 j81 j82 j83 j84 j85 j86 j87 j88 j89 j90 j91 j92 j93 j94 j95 j96 j97 j98 j99 j100 j101 j102 j103 j104 j105 j106 j107 j108 : Value) (Q0 : Exit → Act → World → Prop)
    (h0 : ∀ j51 j52 j53 j54 j55 j56 j57 j58 j59 tv' vs' W', TC w0 tv' (rows ++ [rowM x c]) vs' W' → Q0 .normal { tmps := #[.slice (some ⟨nb, no, none⟩) nn ncap, j1, j2, j3, j4, j5, j6, tv', .int .i64 k, pt A 0, j10, j11, j12, j13, j14, j15, j16, j17, j18, j19, j20, j21, j22, j23, j24, j25, j26, j27, j28, j29, j30, j31, j32, j33, j34, j35, j36, j37, j38, j39, j40, j41, j42, j43, j44, j45, j46, j47, j48, j49, j50, j51, j52, j53, j54, j55, j56, j57, j58, j59, j60, j61, j62, j63, j64, j65, j66, j67, j68, j69, j70, j71, j72, j73, j74, j75, j76, j77, j78, j79, j80, j81, j82, j83, j84, j85, j86, j87, j88, j89, j90, j91, j92, j93, j94, j95, j96, j97, j98, j99, j100, j101, j102, j103, j104, j105, j106, j107, j108], defers := [] } W') :
    (navC [1, 1, 1, 1, 0, 1, 1, 1, 1, 1, 0, 1, 1, 1] (Tryz.f34.body.getD .skip)).wp Tryz.prog Q0 { tmps := #[.slice (some ⟨nb, no, none⟩) nn ncap, j1, j2, j3, j4, j5, j6, tv, .int .i64 k, pt A 0, j10, j11, j12, j13, j14, j15, j16, j17, j18, j19, j20, j21, j22, j23, j24, j25, j26, j27, j28, j29, j30, j31, j32, j33, j34, j35, j36, j37, j38, j39, j40, j41, j42, j43, j44, j45, j46, j47, j48, j49, j50, j51, j52, j53, j54, j55, j56, j57, j58, j59, j60, j61, j62, j63, j64, j65, j66, j67, j68, j69, j70, j71, j72, j73, j74, j75, j76, j77, j78, j79, j80, j81, j82, j83, j84, j85, j86, j87, j88, j89, j90, j91, j92, j93, j94, j95, j96, j97, j98, j99, j100, j101, j102, j103, j104, j105, j106, j107, j108], defers := [] } W := by
  conv => arg 2; whnf
  have hR' := Lib.hid hR; clear hR
  have hX := Lib.hid hx; clear hx
  refine Tell.region_told 8 [⟨6, 57, IsRow w0 (rowM x c)⟩, ⟨7, 58, IsOne w0 (rowM x c)⟩] (fun W => TC w0 tv rows vs W ∧ W.heap[A]? = some (.cells (coc c) 23)) (by kernel_rfl) [(6, 57), (7, 58)] rfl 109 (by kernel_rfl) rfl (by simp) ?hC ?hR ⟨hC, hA⟩ ?H
  case hC => exact fun W W' h hb => ⟨h.1.closed hb, by rw [hb.block A (Mild.lt_of_block h.2)]; exact h.2⟩
  case hR =>
    simp only [List.forall_mem_cons, List.not_mem_nil, false_imp_iff, implies_true, and_true]
    refine ⟨fun v x y W W' h hb => own_below h hb, ?_⟩
    rintro v x y W W' ⟨b, u, h1, h2, h3, h4⟩ hb
    exact ⟨b, u, h1, by rw [hb.block b (Mild.lt_of_block h2)]; exact h2, h3, own_below h4 hb⟩
  apply Exists.intro
  refine ⟨?HW, ?HA, ?HT⟩
  case HW =>
    intro vals W hW
    have cA := Mild.cell_of_block hW.2
    have cx := (hW.1.below.cell (p := ⟨nb, no + k, none⟩) hnb).trans hX.out
    have hWt := Lib.hid (ht0.below hW.1.below)
    have hbg := hW.1.big
    clear hW
    simp only [List.take_succ_cons, List.take_zero]
    iterate 6 (apply Tell.walk_q rfl rfl; go_wp2; refine ⟨rfl, rfl, Below.refl _ _, ?_⟩)
    refine Tell.walk_t _ (List.mem_cons_self ..) rfl (by simp) ?_ ?_
    · intro _
      go_wp2_with (go_at_call 47; refine (row_any x c _ hWt.out hR'.out).mono ?_; rintro e w1 ⟨v, rfl, hown, hb⟩)
      exact ⟨rfl, rfl, hb, own_mono hown hbg⟩
    · simp only [Act.put, List.setIfInBounds_toArray, List.set_cons_zero, List.set_cons_succ]
      refine Tell.walk_t _ (List.mem_cons_of_mem _ (List.mem_cons_self ..)) rfl (by simp) ?_ ?_
      · intro hy
        obtain ⟨lo, hi, ho, _⟩ := hy _ (List.mem_cons_self ..) (by kernel_rfl)
        have ho2 : W.ownsRow w0.heap.size 9 1 (vals 6) 5 ((rowM x c).map Value.string) := ho
        obtain ⟨g, cap, hv, hg1, hg2, hg3, hg4⟩ := own_open ho2
        rw [hv] at ho2 ⊢
        have HO := Lib.hid ho2; clear ho2 ho hg4 hv hy
        go_wp2
        exact ⟨rfl, rfl, (Below.refl _ _).alloc (Nat.le_refl _) _, W.heap.size, _, rfl, Mild.alloc_at _ _, rfl, HO.out.alloc _⟩
      · simp only [Act.put, List.setIfInBounds_toArray, List.set_cons_zero, List.set_cons_succ]
        exact Tell.walk_end rfl
  case HA => exact fun _ => rfl
  case HT =>
    intro vals lo hi w2 hC2 ht _
    simp only [List.forall_mem_cons, List.not_mem_nil, false_imp_iff, implies_true, and_true] at ht
    obtain ⟨_, ⟨b, u, hv, hbb, hu1, hrow⟩, _⟩ := ht
    simp only [List.drop_succ_cons, List.drop_zero, hv]
    have HC := Lib.hid hC2; clear hC2 hv hC hA
    have HB := Lib.hid hbb; clear hbb
    have HR := Lib.hid hrow; clear hrow
    obtain ⟨ti, hi9, hz0, hz1, hz2⟩ := info_parts info41
    go_wp2_with (at_builtin; refine wpList_append_own _ rfl _ _ 60 rfl w0.heap.size 25 ti (.slice none 0 0) 1 24 Tryz.underlying60 hi9 hz0 hz1 hz2 rfl (by decide) _ _ _ rfl (HC.out.1.tab) ⟨b, 0, none⟩ 1 1 [u] rfl rfl ?c1 ?c2 ?c3 ?c4 ?c5 ?_)
    case c1 =>
      intro j y hj
      match j, hj with
      | 0, hj => simp at hj; subst hj; exact Mild.cell_of_block HB.out 0
    case c3 => unfold maxLen; omega
    case c4 => omega
    case c5 => exact HC.out.1.big
    · intro v' w3 hown' hgrow _
      have hG := HC.out.1.more (row_len x c) HR.out hown' hgrow
      go_wp2
      exact h0 _ _ _ _ _ _ _ _ _ _ _ _ hG
end Go.Proofs.YtajccjbigcdkbaaGreatDoor
