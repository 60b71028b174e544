/- MeterMatchesReference: the walk. -/
import Derived.Test.YtajccjbigcdkbaaGreatDoorZv
-- USEBDN
set_option linter.unusedSimpArgs false
set_option linter.unusedVariables false
namespace Go.Proofs.YtajccjbigcdkbaaGreatDoor
open Go.ChangeShapes Go.WideShapes Go.ChangeAt Go.RowKit
theorem law_plainB (x : Co) : plainB (lawM x) = true := by
  have one : ∀ n : Int, okN (n % 1099511627776) = true := fun n => by unfold okN; simp; omega
  unfold plainB lawM
  rw [one, one, one, one]; rfl
theorem own_parts {W : World} {base g cap n : Nat} {l : List Co} (h : W.ownsRow base 23 4 (.slice (some ⟨g, 0, none⟩) n cap) n (l.flatMap cells4)) :
    ∃ cur : Array Value, base ≤ g ∧ W.heap[g]? = some (.cells cur 23) ∧ n ≤ cap ∧ cur.size = cap * 4 ∧ cur.toList.take (n * 4) = l.flatMap cells4 := by
  rcases h.2 with ⟨hn, _⟩ | ⟨g', cap', cur, hv, hb, hg, hnc, _, hcs, ht⟩
  · cases hn
  · cases hv
    exact ⟨cur, hb, hg, hnc, hcs, ht⟩
theorem start_two (W : World) (A : Nat) (x y : Co) (hA : W.heap[A]? = some (.cells (two8 x y) 24)) :
    LM W A x y [] [] (.slice (some ⟨W.heap.size, 0, none⟩) 0 0) (.slice (some ⟨W.heap.size + 1, 0, none⟩) 0 0) ((W.alloc (.cells #[] 23)).alloc (.cells #[] 23)) := by
  refine ⟨((Below.refl _ _).alloc (Nat.le_refl _) _).alloc (by simp) _, by simp; omega, Mild.alloc_lt _ (Mild.alloc_lt _ hA), ?_, ?_, ⟨_, _, rfl⟩, ⟨_, _, rfl⟩, by simp [Value.ownBlock]⟩
  · exact own_below (World.ownsRow_made W #[] 0 (Nat.le_refl _) (by decide) rfl) ((Below.refl _ _).alloc (Nat.le_refl _) _)
  · have := World.ownsRow_made (W.alloc (.cells #[] 23)) #[] 0 (e := 23) (size := 4) (base := W.heap.size) (by simp) (by decide) rfl
    rw [World.size_alloc] at this
    exact this

set_option maxRecDepth 100000 in
set_option maxHeartbeats 8000000 in
theorem matches_walk (x y : Co) (s : ByteArray) (hs : s.size ≤ 9223372036854775807) (names : List ByteArray) (an : Option Addr) (n ncap : Nat) (hlen : names.length = n) (w : World) (ht : Tabs w) (hxz : ∀ x ∈ names, x.size ≤ 9223372036854775807) (hN : ∀ (j : Nat) x, names[j]? = some x → ∃ nb no, an = some ⟨nb, no, none⟩ ∧ nb < w.heap.size ∧ w.cell? ⟨nb, no + j, none⟩ = some (.string x)) :
    Calls Tryz.prog 3 #[.agg (two8 x y), .string s, .slice an n ncap] w fun e w' => e = .returned (.bool true) ∧ Below w.heap.size w w' := by
  have HT := Lib.hid ht; clear ht
  have HNN := Lib.hid hN; clear hN
  have HXZ := Lib.hid hxz; clear hxz
  have HLEN := Lib.hid hlen; clear hlen
  by_cases h1 : s.size ≤ 200
  · have h1i : ¬ (200 : Int) < s.size := by omega
    by_cases h2 : n ≤ 20
    · have h2i : ¬ (20 : Int) < n := by omega
      go_enter Tryz.func3, Tryz.ntmps3
      go_upto_region 7 with (first | (go_at_call 4; refine (examples_any _ (HT.out.below (by (repeat' (first | (with_reducible exact Below.refl _ _) | (with_reducible assumption) | (with_reducible refine Below.alloc ?_ ?_ _) | (with_reducible refine Below.drew ?_) | (with_reducible refine bdn ?_ _) | (with_reducible refine Below.setCell ?_ ?_ _) | go_size))))).mono ?_; rintro e w1 ⟨rfl, hb1⟩; have b1 : w1.heap[w.heap.size]? = some (.cells (two8 x y) 24) := (by rw [hb1.block _ (by simp)]; exact Mild.alloc_at _ _); have c1 := Mild.cell_of_block b1; have hz1 := hb1.size; have B1 : Below w.heap.size w w1 := ((Below.refl _ _).alloc (Nat.le_refl _) _).trans (hb1.mono (by simp))) | (go_at_call 6; refine (numbers_any x _).mono ?_; rintro e w2 ⟨rfl, hb2⟩) | (go_at_call 5; refine (law_any x _).mono ?_; rintro e w3 ⟨rfl, hb3⟩))
      have B3 : Below w.heap.size w w3 := B1.trans ((hb2.trans (hb3.mono hb2.size)).mono B1.size)
      have b3 : w3.heap[w.heap.size]? = some (.cells (two8 x y) 24) := by
        have hl := Mild.lt_of_block b1
        rw [hb3.block _ (Nat.lt_of_lt_of_le hl hb2.size), hb2.block _ hl]; exact b1
      have hC7 : Mild.Bks w.heap.size w [(w.heap.size, .cells (two8 x y) 24), (w3.heap.size, .cells (coc (lawM x)) 23)] (w3.alloc (.cells (coc (lawM x)) 23)) := by
        refine ⟨B3.alloc B3.size _, by simp; have := B3.size; omega, ?_⟩
        simp only [List.forall_mem_cons, List.not_mem_nil, false_imp_iff, implies_true, and_true]
        exact ⟨Mild.alloc_lt _ b3, Mild.alloc_at _ _⟩
      have hpl := law_plainB x
      have HP := Lib.hid hpl
      clear b1 c1 hz1 B1 hb1 hb2 hb3 b3 B3 hpl
      generalize lawM x = p at *
      generalize w3.heap.size = Pb at *
      refine mref7 w _ HT.out w.heap.size Pb x y p s h1 HP.out hC7 _ _ _ _ _ _ _ _ _ _ _ _ _ _ _ _ _ _ _ _ _ _ _ _ _ _ _ _ _ _ _ _ _ _ _ _ _ _ _ _ _ _ _ _ _ _ _ _ _ _ _ _ _ _ _ _ _ _ _ _ _ _ _ _ _ _ _ _ _ _ _ _ _ _ _ _ _ _ _ _ _ _ _ _ _ _ _ _ _ _ _ _ _ _ _ _ _ _ _ _ _ _ _ _ _ _ _ _ _ _ _ _ _ _ _ _ _ _ _ _ _ _ _ _ _ _ _ _ _ _ _ _ _ _ _ _ _ _ _ _ _ _ _ _ _ _ _ _ _ _ _ _ _ _ _ _ _ _ _ _ ?_
      clear hC7
      intro j28 j29 j30 j31 j32 j33 j34 j35 j36 j37 j38 j39 j40 j41 j42 j43 j44 j45 j46 j47 j48 j49 j50 j51 j52 j53 j54 j55 j56 j57 j58 j59 j60 j61 j62 j63 j64 j65 j66 j67 j68 j69 j70 j71 j72 j73 j74 j75 j76 j77 j78 j79 j80 j81 j82 j83 j84 j85 j86 j87 j88 j89 j90 j91 j92 j93 j94 W1 hC
      have hb := hC.blocks
      simp only [List.forall_mem_cons, List.not_mem_nil, false_imp_iff, implies_true, and_true] at hb
      have hL := start_two W1 w.heap.size x y hb.1
      have HB := Lib.hid hb
      have HC := Lib.hid hC
      have hA := Mild.lt_of_block hb.1
      clear hb hC
      go_upto_block 0 with (fail)
      refine mlists W1 _ w.heap.size hA x y _ _ hL an n ncap h2 _ _ _ _ _ _ _ _ _ _ _ _ _ _ _ _ _ _ _ _ _ _ _ _ _ _ _ _ _ _ _ _ _ _ _ _ _ _ _ _ _ _ _ _ _ _ _ _ _ _ _ _ _ _ _ _ _ _ _ _ _ _ _ _ _ _ _ _ _ _ _ _ _ _ _ _ _ _ _ _ _ _ _ _ _ _ _ _ _ _ _ _ _ _ _ _ _ _ _ _ _ _ _ _ _ _ _ _ _ _ _ _ _ _ _ _ _ _ _ _ _ _ _ _ _ _ _ _ _ _ _ _ _ _ _ _ _ _ _ _ _ _ _ _ _ _ _ _ _ _ _ _ _ _ _ _ _ _ ?_
      clear hL
      intro l1 l2 u9 u10 j11 j98 j99 j100 j101 j102 j103 j104 j105 j106 j107 j108 j109 j110 j111 j112 j113 j114 j115 j116 j117 j118 j119 j120 j121 j122 j123 j124 j125 j126 j127 W2 hl1 hl2 hC2
      obtain ⟨g9, c9, rfl⟩ := hC2.r9
      obtain ⟨S, c10, rfl⟩ := hC2.r10
      have o9 := hC2.o9
      have o10 := hC2.o10
      rw [hl1] at o9
      rw [hl2] at o10
      obtain ⟨kc, k1, k2, k3, k4, k5⟩ := own_parts o9
      obtain ⟨cur, m1, m2, m3, m4, m5⟩ := own_parts o10
      have hgS : g9 ≠ S := fun e => hC2.ap (by rw [e]; rfl)
      have hPS : Pb ≠ S := by have := Mild.lt_of_block HB.out.2; omega
      have hC15 : C15 W1 Pb p g9 kc S c10 n cur W2 := ⟨hC2.below, hC2.big, (hC2.below.block _ (Mild.lt_of_block HB.out.2)).trans HB.out.2, k2, .inl m2⟩
      have hNW : ∀ (j : Nat) x, names[j]? = some x → ∃ nb no, an = some ⟨nb, no, none⟩ ∧ nb < W1.heap.size ∧ W1.cell? ⟨nb, no + j, none⟩ = some (.string x) := fun j x hx => by
        obtain ⟨nb, no, q1, q2, q3⟩ := HNN.out j x hx
        exact ⟨nb, no, q1, Nat.lt_of_lt_of_le q2 HC.out.big, (HC.out.below.cell (p := ⟨nb, _, none⟩) q2).trans q3⟩
      rw [hl1, hl2]
      clear o9 o10 hC2 k1 k2 k3 k4 m2
      go_upto_region 15 with (fail)
      refine mref15 W1 _ (HT.out.below HC.out.below) names an n ncap HLEN.out h2 HXZ.out hNW Pb p g9 c9 kc l1 hl1 (has_take k5) S c10 cur l2 hl2 m4 m3 m5 m1 hPS hgS hC15 _ _ _ _ _ _ _ _ _ _ _ _ _ _ _ _ _ _ _ _ _ _ _ _ _ _ _ _ _ _ _ _ _ _ _ _ _ _ _ _ _ _ _ _ _ _ _ _ _ _ _ _ _ _ _ _ _ _ _ _ _ _ _ _ _ _ _ _ _ _ _ _ _ _ _ _ _ _ _ _ _ _ _ _ _ _ _ _ _ _ _ _ _ _ _ _ _ _ _ _ _ _ _ _ _ _ _ _ _ _ _ _ _ _ _ _ _ _ _ _ _ _ _ _ _ _ _ _ _ _ _ _ _ _ _ _ _ _ _ _ _ _ _ _ _ _ _ _ _ _ _ _ _ _ _ _ _ _ ?_
      clear hC15 hNW
      intro j128 j129 j130 j131 j132 j133 j134 j135 j136 j137 j138 j139 j140 j141 j142 j143 j144 j145 j146 j147 j148 j149 j150 j151 j152 j153 j154 j155 j156 j157 j158 j159 j160 j161 W3 hC3
      go_wp2
      exact bodyPost_ret (v := .bool true) (by simp [results, Tryz.results3, go_sem, *]) rfl ⟨rfl, HC.out.below.trans (hC3.below.mono HC.out.big)⟩
    · have h2i : (20 : Int) < n := by omega
      go_enter Tryz.func3, Tryz.ntmps3
      go_wp2_with (go_at_call 4; refine (examples_any _ (HT.out.below (by (repeat' (first | (with_reducible exact Below.refl _ _) | (with_reducible assumption) | (with_reducible refine Below.alloc ?_ ?_ _) | (with_reducible refine Below.drew ?_) | (with_reducible refine bdn ?_ _) | (with_reducible refine Below.setCell ?_ ?_ _) | go_size))))).mono ?_; rintro e w1 ⟨rfl, hb1⟩)
      exact bodyPost_ret (v := .bool true) (by simp [results, Tryz.results3, go_sem, *]) rfl ⟨rfl, ((Below.refl _ _).alloc (Nat.le_refl _) _).trans (hb1.mono (by simp))⟩
  · have h1i : (200 : Int) < s.size := by omega
    go_enter Tryz.func3, Tryz.ntmps3
    go_wp2_with (go_at_call 4; refine (examples_any _ (HT.out.below (by (repeat' (first | (with_reducible exact Below.refl _ _) | (with_reducible assumption) | (with_reducible refine Below.alloc ?_ ?_ _) | (with_reducible refine Below.drew ?_) | (with_reducible refine bdn ?_ _) | (with_reducible refine Below.setCell ?_ ?_ _) | go_size))))).mono ?_; rintro e w1 ⟨rfl, hb1⟩)
    exact bodyPost_ret (v := .bool true) (by simp [results, Tryz.results3, go_sem, *]) rfl ⟨rfl, ((Below.refl _ _).alloc (Nat.le_refl _) _).trans (hb1.mono (by simp))⟩
end Go.Proofs.YtajccjbigcdkbaaGreatDoor
