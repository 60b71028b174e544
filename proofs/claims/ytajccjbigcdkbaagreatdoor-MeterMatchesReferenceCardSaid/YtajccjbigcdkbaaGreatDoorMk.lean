/- Parse: a round. -/
import Derived.Test.YtajccjbigcdkbaaGreatDoorMj
import Derived.Lib.AtoiOr
-- USEBDN
set_option linter.unusedSimpArgs false
set_option linter.unusedVariables false
namespace Go.Proofs.YtajccjbigcdkbaaGreatDoor
open Go.ChangeShapes Go.WideShapes Go.ChangeAt Go.RowKit
theorem bytesWorld_below (w : World) (e : TypeId) (t : ByteArray) : Below w.heap.size w (Lib.bytesWorld w e t) := by
  refine ⟨rfl, rfl, rfl, ?_, fun k hk => ?_⟩
  · unfold Lib.bytesWorld World.freeze
    rw [if_neg (by omega)]
    show w.heap.size ≤ (Array.modify _ _ _).size
    rw [Array.size_modify]
    show w.heap.size ≤ (w.heap.push _).size
    rw [Array.size_push]; omega
  · unfold Lib.bytesWorld World.freeze
    rw [if_neg (by omega)]
    show (Array.modify (w.heap.push _) w.heap.size _)[k]? = _
    rw [Array.getElem?_modify, if_neg (by omega), Array.getElem?_push, if_neg (by omega)]
theorem atoi_ok (s : ByteArray) (hs : s.size < 4294967281) (v : Int) (h : Lib.atoiAll s.data.toList = .ok v) (w : World) : Calls Tryz.prog 44 #[.string s] w fun e w' => e = .returned (.tuple #[.int .i64 v, .nilIface]) ∧ Below w.heap.size w w' :=
  (Tryz.strconv_Atoi_ok s (by omega) v h w).mono fun e w' ⟨he, hw⟩ => ⟨he, by rcases hw with rfl | ⟨t, rfl⟩; exact Below.refl _ _; exact bytesWorld_below w _ t⟩
theorem atoi_bad (s : ByteArray) (hs : s.size < 4294967281) (h : ∀ v, Lib.atoiAll s.data.toList ≠ .ok v) (w : World) (ht : Tabs w) : Calls Tryz.prog 44 #[.string s] w fun e w' => ∃ x N, e = .returned (.tuple #[.int .i64 x, .iface 103 (.pointer (some ⟨N, 0, none⟩))]) ∧ Below w.heap.size w w' := by
  obtain ⟨tp, p, e1⟩ := ht.syn
  obtain ⟨tq, q, e2⟩ := ht.rng
  rcases ha : Lib.atoiAll s.data.toList with v | _ | _
  · exact absurd ha (h v)
  · exact (Any.strconv_Atoi_syntax_var Tryz.laysC172 s (by omega) ha tp p w e1).mono fun e w' ⟨N, he, _, _, hb⟩ => ⟨_, N, he, hb⟩
  · exact (Tryz.strconv_Atoi_range_var s (by omega) ha tq q w e2).mono fun e w' ⟨N, he, _, _, hb⟩ => ⟨_, N, he, hb⟩
/-- The digits of a part. -/
def digsB (p : ByteArray) : ByteArray := ⟨(Lib.cut p.data.toList [32]).2.1.toArray⟩
theorem digs_size (p : ByteArray) (h : p.size < 4294967281) : (digsB p).size < 4294967281 := by
  have : (Lib.cut p.data.toList [32]).2.1.length ≤ p.data.toList.length := by
    unfold Lib.cut
    split
    · show (List.drop _ _).length ≤ _
      rw [List.length_drop]; omega
    · exact Nat.zero_le _
  have e : p.data.toList.length = p.size := by rw [Array.length_toList]; rfl
  show (Lib.cut p.data.toList [32]).2.1.toArray.size < _
  rw [List.size_toArray]; omega
theorem cut_any (p : ByteArray) (h : p.size < 4294967281) (w : World) (ht : Tabs w) : Calls Tryz.prog 43 #[.string p, .string ⟨#[32]⟩] w fun e w' => ∃ x b, e = .returned (.tuple #[.string x, .string (digsB p), .bool b]) ∧ Below w.heap.size w w' := by
  obtain ⟨m, hm⟩ := ht.mx
  exact (Tryz.strings_Cut p ⟨#[32]⟩ m w h hm).mono fun e w' ⟨he, n, hw⟩ => ⟨_, _, he, by rw [hw]; exact bdn (Below.refl _ _) n⟩
abbrev PB (A R S : Nat) (xs : Array Value) (l : List ByteArray) : List (Nat × Obj) := [(A, .cells xs 23), (R, .cells #[.int .i64 0, .int .i64 0, .int .i64 0, .int .i64 0] 23), (S, .cells (l.map Value.string).toArray 9)]

set_option maxRecDepth 20000 in
set_option maxHeartbeats 2000000 in
theorem parse8 (w0 W : World) (A R S : Nat) (xs : Array Value) (l : List ByteArray) (ht0 : Tabs w0) (hC : Mild.Bks w0.heap.size w0 (PB A R S xs l) W) (hAR : A ≠ R) (hAS : A ≠ S) (hRS : R ≠ S) (hA : w0.heap.size ≤ A) (hR : w0.heap.size ≤ R) (i : Nat) (p : ByteArray) (hp : l[i]? = some p) (hps : p.size < 4294967281) (hl : l.length = 4) (hi : i < 4)
    (hxs : xs.size = 4) (hix : ∀ w, (Instr.index 46 (ptsv A) (.int .i64 i)).run Tryz.prog w = .ok (pt A i) w) (j0 j1 j6 j7 j8 j9 j10 j11 j12 j13 j14 j15 j16 j17 j18 j19 j20 j23 j24 j25 j26 j27 j28 j29 j30 j31 j32 j33 j34 j35 j36 j37 j38 j39 j40 j41 j42 j43 j44 j45 j46 j47 j48 j49 j50 j51 j52 j53 j54 j55 j56 j57 : Value) (Q0 : Exit → Act → World → Prop)
    (h0 : ∀ v, Lib.atoiAll (digsB p).data.toList = .ok v → ∀ j6 j7 j8 j9 j10 j11 j12 j24 j25 j26 j27 j28 j29 j30 j31 j32 j33 j34 j35 j36 j37 j38 j39 j40 j41 j42 j43 j44 j45 W', Mild.Bks w0.heap.size w0 (PB A R S (xs.setIfInBounds i (.int .i64 v)) l) W' → Q0 .normal { tmps := #[j0, j1, pt R 0, .int .i64 0, pt A 0, .slice (some ⟨S, 0, none⟩) l.length l.length, j6, j7, j8, j9, j10, j11, j12, j13, j14, j15, j16, j17, j18, j19, j20, ptsv A, .int .i64 i, j23, j24, j25, j26, j27, j28, j29, j30, j31, j32, j33, j34, j35, j36, j37, j38, j39, j40, j41, j42, j43, j44, j45, j46, j47, j48, j49, j50, j51, j52, j53, j54, j55, j56, j57], defers := [] } W')
    (h1 : (∀ v, Lib.atoiAll (digsB p).data.toList ≠ .ok v) → ∀ j6 j7 j8 j9 j10 j11 j12 j24 j25 j26 j27 j28 j29 j30 j31 j32 j33 j34 j35 j36 j37 j38 j39 j40 j41 j42 j43 j44 j45 W', Below w0.heap.size w0 W' → W'.heap[R]? = some (.cells #[.int .i64 0, .int .i64 0, .int .i64 0, .int .i64 0] 23) → Q0 .ret { tmps := #[j0, j1, pt R 0, .int .i64 3, pt A 0, .slice (some ⟨S, 0, none⟩) l.length l.length, j6, j7, j8, j9, j10, j11, j12, j13, j14, j15, j16, j17, j18, j19, j20, ptsv A, .int .i64 i, j23, j24, j25, j26, j27, j28, j29, j30, j31, j32, j33, j34, j35, j36, j37, j38, j39, j40, j41, j42, j43, j44, j45, j46, j47, j48, j49, j50, j51, j52, j53, j54, j55, j56, j57], defers := [] } W') :
    (navC [1, 1, 1, 1, 0, 1, 1, 1, 1, 1, 0] (Tryz.f31.body.getD .skip)).wp Tryz.prog Q0 { tmps := #[j0, j1, pt R 0, .int .i64 0, pt A 0, .slice (some ⟨S, 0, none⟩) l.length l.length, j6, j7, j8, j9, j10, j11, j12, j13, j14, j15, j16, j17, j18, j19, j20, ptsv A, .int .i64 i, j23, j24, j25, j26, j27, j28, j29, j30, j31, j32, j33, j34, j35, j36, j37, j38, j39, j40, j41, j42, j43, j44, j45, j46, j47, j48, j49, j50, j51, j52, j53, j54, j55, j56, j57], defers := [] } W := by
  conv => arg 2; whnf
  have hb := hC.blocks
  simp only [List.forall_mem_cons, List.not_mem_nil, false_imp_iff, implies_true, and_true] at hb
  obtain ⟨bA, bR, bS⟩ := hb
  have cS : W.cell? ⟨S, i, none⟩ = some (.string p) := by rw [Mild.cell_of_block bS, List.getElem?_toArray, List.getElem?_map, hp]; rfl
  have hd := digs_size p hps
  have hT := Lib.hid (ht0.below hC.below)
  have hX := Lib.hid hl; clear hl
  have hlen : i < l.length := by rw [hX.out]; exact hi
  have hlen4 : l.length ≤ 4 := by rw [hX.out]; omega
  have HP := Lib.hid hp; clear hp
  have HX := Lib.hid hxs; clear hxs
  have HC := Lib.hid hC; clear hC bA bR bS
  by_cases hok : ∃ v, Lib.atoiAll (digsB p).data.toList = .ok v
  · obtain ⟨v, hv⟩ := hok
    have hV := Lib.hid hv
    have h0' := Lib.hid (h0 v hv); clear h0 h1 hv
    go_wp2_with (go_at_call 43; refine (cut_any p hps _ hT.out).mono ?_; rintro e w1 ⟨x1, b1, rfl, hb1⟩)
    refine (atoi_ok _ hd v hV.out _).mono ?_
    rintro e w2 ⟨rfl, hb2⟩
    have HC2 := Lib.hid (Mild.Bks.closed _ _ (Mild.Bks.closed _ _ HC.out hb1) hb2)
    have hb := HC2.out.blocks
    simp only [List.forall_mem_cons, List.not_mem_nil, false_imp_iff, implies_true, and_true] at hb
    obtain ⟨bA2, bR2, bS2⟩ := hb
    have fA := Mild.free_of_block bA2
    have cA : ∃ y, w2.cell? ⟨A, i, none⟩ = some y := ⟨xs[i]'(by rw [HX.out]; exact hi), by rw [Mild.cell_of_block bA2]; exact Array.getElem?_eq_getElem _⟩
    obtain ⟨y, cA⟩ := cA
    clear cS hb1 hb2
    go_wp2
    refine h0'.out _ _ _ _ _ _ _ _ _ _ _ _ _ _ _ _ _ _ _ _ _ _ _ _ _ _ _ _ _ _ ⟨HC2.out.below.setCell hA _, by have := HC2.out.big; simp [World.setCell]; omega, ?_⟩
    simp only [List.forall_mem_cons, List.not_mem_nil, false_imp_iff, implies_true, and_true]
    exact ⟨Joins.block_setCell bA2 _, Mild.set_ne bR2 (Ne.symm hAR), Mild.set_ne bS2 (Ne.symm hAS)⟩
  · have hbad : ∀ v, Lib.atoiAll (digsB p).data.toList ≠ .ok v := fun v h => hok ⟨v, h⟩
    have hV := Lib.hid hbad
    have h1' := Lib.hid (h1 hbad); clear hbad hok h0 h1
    go_wp2_with (go_at_call 43; refine (cut_any p hps _ hT.out).mono ?_; rintro e w1 ⟨x1, b1, rfl, hb1⟩)
    refine (atoi_bad _ hd hV.out _ (hT.out.below hb1)).mono ?_
    rintro e w2 ⟨x2, N2, rfl, hb2⟩
    have HC2 := Lib.hid (Mild.Bks.closed _ _ (Mild.Bks.closed _ _ HC.out hb1) hb2)
    have hb := HC2.out.blocks
    simp only [List.forall_mem_cons, List.not_mem_nil, false_imp_iff, implies_true, and_true] at hb
    obtain ⟨bA2, bR2, bS2⟩ := hb
    have fR := Mild.free_of_block bR2
    have cR := Mild.cell_of_block bR2
    clear cS hb1 hb2
    go_wp2
    exact h1'.out _ _ _ _ _ _ _ _ _ _ _ _ _ _ _ _ _ _ _ _ _ _ _ _ _ _ _ _ _ _ ((((HC2.out.below.setCell (p := ⟨R, 0, none⟩) hR _).setCell (p := ⟨R, 1, none⟩) hR _).setCell (p := ⟨R, 2, none⟩) hR _).setCell (p := ⟨R, 3, none⟩) hR _) (Joins.block_setCell (Joins.block_setCell (Joins.block_setCell (Joins.block_setCell bR2 _) _) _) _)
end Go.Proofs.YtajccjbigcdkbaaGreatDoor
