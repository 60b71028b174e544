/- Parse: the walk. -/
import Derived.Test.YtajccjbigcdkbaaGreatDoorMl
-- USEBDN
set_option linter.unusedSimpArgs false
set_option linter.unusedVariables false
namespace Go.Proofs.YtajccjbigcdkbaaGreatDoor
open Go.ChangeShapes Go.WideShapes Go.ChangeAt Go.RowKit
theorem parse_start (s : ByteArray) (w : World) : Mild.Bks w.heap.size w (PB (w.heap.size + 1) w.heap.size (w.heap.size + 1 + 1) #[.int .i64 0, .int .i64 0, .int .i64 0, .int .i64 0] (partsB s)) (((w.alloc (.cells #[.int .i64 0, .int .i64 0, .int .i64 0, .int .i64 0] 23)).alloc (.cells #[.int .i64 0, .int .i64 0, .int .i64 0, .int .i64 0] 23)).alloc (.cells ((partsB s).map Value.string).toArray 9)) := by
  refine ⟨by (repeat' (first | (with_reducible exact Below.refl _ _) | (with_reducible assumption) | (with_reducible refine Below.alloc ?_ ?_ _) | (with_reducible refine Below.drew ?_) | (with_reducible refine bdn ?_ _) | (with_reducible refine Below.setCell ?_ ?_ _) | go_size)), by go_size, ?_⟩
  simp only [List.forall_mem_cons, List.not_mem_nil, false_imp_iff, implies_true, and_true]
  refine ⟨Mild.alloc_lt _ ?_, Mild.alloc_lt _ (Mild.alloc_lt _ (Mild.alloc_at _ _)), ?_⟩
  · have := Mild.alloc_at (w.alloc (.cells #[.int .i64 0, .int .i64 0, .int .i64 0, .int .i64 0] 23)) (.cells #[.int .i64 0, .int .i64 0, .int .i64 0, .int .i64 0] 23); rw [World.size_alloc] at this; exact this
  · have := Mild.alloc_at ((w.alloc (.cells #[.int .i64 0, .int .i64 0, .int .i64 0, .int .i64 0] 23)).alloc (.cells #[.int .i64 0, .int .i64 0, .int .i64 0, .int .i64 0] 23)) (.cells ((partsB s).map Value.string).toArray 9); rw [World.size_alloc, World.size_alloc] at this; exact this
theorem four {l : List ByteArray} (h : l.length = 4) : ∃ p q r t, l = [p, q, r, t] := by
  match l, h with
  | [p, q, r, t], _ => exact ⟨p, q, r, t, rfl⟩
set_option maxRecDepth 20000 in
set_option maxHeartbeats 4000000 in
theorem parse_any (s : ByteArray) (hs : s.size < 4294967281) (w : World) (ht : Tabs w) :
    Calls Tryz.prog 31 #[.string s] w fun e w' => e = .returned (.tuple #[cov (parseC s), .int .i64 (parseE s)]) ∧ Below w.heap.size w w' := by
  have hT := Lib.hid ht; clear ht
  by_cases hl : (partsB s).length = 4
  · have hlt : (((partsB s).length : Int) != 4) = false := by rw [hl]; rfl
    obtain ⟨p, q, r, t, hpq⟩ := four hl
    have hmem := fun x (h : x ∈ partsB s) => Nat.lt_of_le_of_lt (splitB_le sepB _ s x h) hs
    rw [hpq] at hmem
    simp only [List.forall_mem_cons, List.not_mem_nil, false_imp_iff, implies_true, and_true] at hmem
    obtain ⟨hp, hq, hr, ht⟩ := hmem
    have i0 := ixp0
    have i1 := ixp1
    have i2 := ixp2
    have i3 := ixp3
    have HL := Lib.hid hl; clear hl
    have HP := Lib.hid hpq; clear hpq
    go_enter Tryz.func31, Tryz.ntmps31
    go_wp2_with (first | (go_at_call 42; refine (split_any s hs _ (hT.out.below (by (repeat' (first | (with_reducible exact Below.refl _ _) | (with_reducible assumption) | (with_reducible refine Below.alloc ?_ ?_ _) | (with_reducible refine Below.drew ?_) | (with_reducible refine bdn ?_ _) | (with_reducible refine Below.setCell ?_ ?_ _) | go_size))))).mono ?_; rintro e w1 ⟨rfl, rfl⟩) | (go_at_call 26; refine (words_any _).mono ?_; rintro e w2 ⟨rfl, hb2⟩) | (go_at_call 25; refine (parts_any _ _).mono ?_; rintro e w3 ⟨rfl, hb3⟩))
    have hC := Mild.Bks.closed _ _ (Mild.Bks.closed _ _ (parse_start s w) hb2) hb3
    have HC := Lib.hid hC; clear hC hb2 hb3
    refine wp_loop_rounds 5 ?_
    rw [rounds_succ]
    go_upto_block 1 with (fail)
    refine parse8 w _ (w.heap.size + 1) w.heap.size (w.heap.size + 1 + 1) #[.int .i64 0, .int .i64 0, .int .i64 0, .int .i64 0] (partsB s) hT.out HC.out (by omega) (by omega) (by omega) (by omega) (by omega) 0 p (by rw [HP.out]; rfl) hp HL.out (by omega) (by rfl) (ixp0 _) _ _ _ _ _ _ _ _ _ _ _ _ _ _ _ _ _ _ _ _ _ _ _ _ _ _ _ _ _ _ _ _ _ _ _ _ _ _ _ _ _ _ _ _ _ _ _ _ _ _ _ _ _ ?g0 ?e0
    case e0 =>
      intro hbad j6 j7 j8 j9 j10 j11 j12 j24 j25 j26 j27 j28 j29 j30 j31 j32 j33 j34 j35 j36 j37 j38 j39 j40 j41 j42 j43 j44 j45 W' hB hR
      have HN := Lib.hid (parse_none (bad_num HP.out (by simp [num_bad hbad])))
      have cR := Mild.cell_of_block hR
      go_wp2
      exact bodyPost_ret (v := .tuple #[cov zeroM, .int .i64 3]) (by simp [results, Tryz.results31, go_sem, zeroM, *]) rfl ⟨ret_pe HN.out.1 HN.out.2, hB⟩
    intro v0 hv0 j6 j7 j8 j9 j10 j11 j12 j24 j25 j26 j27 j28 j29 j30 j31 j32 j33 j34 j35 j36 j37 j38 j39 j40 j41 j42 j43 j44 j45 W0 hC
    simp only [List.setIfInBounds_toArray, List.set_cons_zero, List.set_cons_succ] at hC
    have HV0 := Lib.hid hv0; clear hv0 HC
    have HC := Lib.hid hC; clear hC
    go_wp2
    rw [rounds_succ]
    go_upto_block 1 with (fail)
    refine parse8 w _ (w.heap.size + 1) w.heap.size (w.heap.size + 1 + 1) #[.int .i64 v0, .int .i64 0, .int .i64 0, .int .i64 0] (partsB s) hT.out HC.out (by omega) (by omega) (by omega) (by omega) (by omega) 1 q (by rw [HP.out]; rfl) hq HL.out (by omega) (by rfl) (ixp1 _) _ _ _ _ _ _ _ _ _ _ _ _ _ _ _ _ _ _ _ _ _ _ _ _ _ _ _ _ _ _ _ _ _ _ _ _ _ _ _ _ _ _ _ _ _ _ _ _ _ _ _ _ _ ?g1 ?e1
    case e1 =>
      intro hbad j6 j7 j8 j9 j10 j11 j12 j24 j25 j26 j27 j28 j29 j30 j31 j32 j33 j34 j35 j36 j37 j38 j39 j40 j41 j42 j43 j44 j45 W' hB hR
      have HN := Lib.hid (parse_none (bad_num HP.out (by simp [num_bad hbad])))
      have cR := Mild.cell_of_block hR
      go_wp2
      exact bodyPost_ret (v := .tuple #[cov zeroM, .int .i64 3]) (by simp [results, Tryz.results31, go_sem, zeroM, *]) rfl ⟨ret_pe HN.out.1 HN.out.2, hB⟩
    intro v1 hv1 j6 j7 j8 j9 j10 j11 j12 j24 j25 j26 j27 j28 j29 j30 j31 j32 j33 j34 j35 j36 j37 j38 j39 j40 j41 j42 j43 j44 j45 W1 hC
    simp only [List.setIfInBounds_toArray, List.set_cons_zero, List.set_cons_succ] at hC
    have HV1 := Lib.hid hv1; clear hv1 HC
    have HC := Lib.hid hC; clear hC
    go_wp2
    rw [rounds_succ]
    go_upto_block 1 with (fail)
    refine parse8 w _ (w.heap.size + 1) w.heap.size (w.heap.size + 1 + 1) #[.int .i64 v0, .int .i64 v1, .int .i64 0, .int .i64 0] (partsB s) hT.out HC.out (by omega) (by omega) (by omega) (by omega) (by omega) 2 r (by rw [HP.out]; rfl) hr HL.out (by omega) (by rfl) (ixp2 _) _ _ _ _ _ _ _ _ _ _ _ _ _ _ _ _ _ _ _ _ _ _ _ _ _ _ _ _ _ _ _ _ _ _ _ _ _ _ _ _ _ _ _ _ _ _ _ _ _ _ _ _ _ ?g2 ?e2
    case e2 =>
      intro hbad j6 j7 j8 j9 j10 j11 j12 j24 j25 j26 j27 j28 j29 j30 j31 j32 j33 j34 j35 j36 j37 j38 j39 j40 j41 j42 j43 j44 j45 W' hB hR
      have HN := Lib.hid (parse_none (bad_num HP.out (by simp [num_bad hbad])))
      have cR := Mild.cell_of_block hR
      go_wp2
      exact bodyPost_ret (v := .tuple #[cov zeroM, .int .i64 3]) (by simp [results, Tryz.results31, go_sem, zeroM, *]) rfl ⟨ret_pe HN.out.1 HN.out.2, hB⟩
    intro v2 hv2 j6 j7 j8 j9 j10 j11 j12 j24 j25 j26 j27 j28 j29 j30 j31 j32 j33 j34 j35 j36 j37 j38 j39 j40 j41 j42 j43 j44 j45 W2 hC
    simp only [List.setIfInBounds_toArray, List.set_cons_zero, List.set_cons_succ] at hC
    have HV2 := Lib.hid hv2; clear hv2 HC
    have HC := Lib.hid hC; clear hC
    go_wp2
    rw [rounds_succ]
    go_upto_block 1 with (fail)
    refine parse8 w _ (w.heap.size + 1) w.heap.size (w.heap.size + 1 + 1) #[.int .i64 v0, .int .i64 v1, .int .i64 v2, .int .i64 0] (partsB s) hT.out HC.out (by omega) (by omega) (by omega) (by omega) (by omega) 3 t (by rw [HP.out]; rfl) ht HL.out (by omega) (by rfl) (ixp3 _) _ _ _ _ _ _ _ _ _ _ _ _ _ _ _ _ _ _ _ _ _ _ _ _ _ _ _ _ _ _ _ _ _ _ _ _ _ _ _ _ _ _ _ _ _ _ _ _ _ _ _ _ _ ?g3 ?e3
    case e3 =>
      intro hbad j6 j7 j8 j9 j10 j11 j12 j24 j25 j26 j27 j28 j29 j30 j31 j32 j33 j34 j35 j36 j37 j38 j39 j40 j41 j42 j43 j44 j45 W' hB hR
      have HN := Lib.hid (parse_none (bad_num HP.out (by simp [num_bad hbad])))
      have cR := Mild.cell_of_block hR
      go_wp2
      exact bodyPost_ret (v := .tuple #[cov zeroM, .int .i64 3]) (by simp [results, Tryz.results31, go_sem, zeroM, *]) rfl ⟨ret_pe HN.out.1 HN.out.2, hB⟩
    intro v3 hv3 j6 j7 j8 j9 j10 j11 j12 j24 j25 j26 j27 j28 j29 j30 j31 j32 j33 j34 j35 j36 j37 j38 j39 j40 j41 j42 j43 j44 j45 W3 hC
    simp only [List.setIfInBounds_toArray, List.set_cons_zero, List.set_cons_succ] at hC
    have HV3 := Lib.hid hv3; clear hv3 HC
    have HC := Lib.hid hC; clear hC
    go_wp2
    rw [rounds_succ]
    have hb := HC.out.blocks
    simp only [List.forall_mem_cons, List.not_mem_nil, false_imp_iff, implies_true, and_true] at hb
    obtain ⟨bA, bR, bS⟩ := hb
    have cA := Mild.cell_of_block bA
    have hz4 := Mild.lt_of_block bA
    have HG := Lib.hid (good_num HP.out (num_ok HV0.out) (num_ok HV1.out) (num_ok HV2.out) (num_ok HV3.out))
    have hR4 := Lib.hid (show Rng ⟨v0, v1, v2, v3⟩ from ⟨Lib.atoiAll_bounds HV0.out, Lib.atoiAll_bounds HV1.out, Lib.atoiAll_bounds HV2.out, Lib.atoiAll_bounds HV3.out⟩)
    have hB4 := HC.out.below
    have hbg := HC.out.big
    cases hpl : plainB ⟨v0, v1, v2, v3⟩ with
    | false =>
      have HN := Lib.hid (parse_none (s := s) (by rw [HG.out]; unfold okM; rw [hpl]; rfl))
      have HPl := Lib.hid hpl; clear hpl
      go_wp2_with fail
      refine (plain_any ⟨v0, v1, v2, v3⟩ _).mono ?_
      rintro e w5 ⟨rfl, hb5⟩
      rw [HPl.out]
      have hB5 := hB4.trans (hb5.mono hbg)
      have bR5 : w5.heap[w.heap.size]? = some (.cells #[.int .i64 0, .int .i64 0, .int .i64 0, .int .i64 0] 23) := by rw [hb5.block _ (Mild.lt_of_block bR)]; exact bR
      have fR := Mild.free_of_block bR5
      have cR := Mild.cell_of_block bR5
      clear cA
      go_wp2
      exact bodyPost_ret (v := .tuple #[cov zeroM, .int .i64 3]) (by simp [results, Tryz.results31, go_sem, zeroM, *]) rfl ⟨ret_pe HN.out.1 HN.out.2, by (repeat' (first | (with_reducible exact Below.refl _ _) | (with_reducible assumption) | (with_reducible refine Below.alloc ?_ ?_ _) | (with_reducible refine Below.drew ?_) | (with_reducible refine bdn ?_ _) | (with_reducible refine Below.setCell ?_ ?_ _) | go_size))⟩
    | true =>
      have HPl := Lib.hid hpl; clear hpl
      go_wp2_with fail
      refine (plain_any ⟨v0, v1, v2, v3⟩ _).mono ?_
      rintro e w5 ⟨rfl, hb5⟩
      rw [HPl.out]
      have HC5 := Lib.hid (Mild.Bks.closed _ _ HC.out hb5)
      clear cA bA bR bS hB4 hbg hz4 hb5
      have hb := HC5.out.blocks
      simp only [List.forall_mem_cons, List.not_mem_nil, false_imp_iff, implies_true, and_true] at hb
      obtain ⟨bA, bR, bS⟩ := hb
      have cA := Mild.cell_of_block bA
      go_wp2_with fail
      refine (text_any ⟨v0, v1, v2, v3⟩ _ (hT.out.below HC5.out.below) hR4.out).mono ?_
      rintro e w6 ⟨rfl, hb6⟩
      have HC6 := Lib.hid (Mild.Bks.closed _ _ HC5.out hb6)
      clear cA bA bR bS hb6
      have hb := HC6.out.blocks
      simp only [List.forall_mem_cons, List.not_mem_nil, false_imp_iff, implies_true, and_true] at hb
      obtain ⟨bA, bR, bS⟩ := hb
      have cA := Mild.cell_of_block bA
      have fR := Mild.free_of_block bR
      have cR := Mild.cell_of_block bR
      have hB6 := HC6.out.below
      have hbg := HC6.out.big
      clear bA bR bS
      cases hq : ((textM ⟨v0, v1, v2, v3⟩).toList == s.toList) with
      | false =>
        have HN := Lib.hid (parse_none (s := s) (by rw [HG.out]; unfold okM; rw [HPl.out, hq]; rfl))
        go_wp2
        exact bodyPost_ret (v := .tuple #[cov zeroM, .int .i64 3]) (by simp [results, Tryz.results31, go_sem, zeroM, *]) rfl ⟨ret_pe HN.out.1 HN.out.2, by (repeat' (first | (with_reducible exact Below.refl _ _) | (with_reducible assumption) | (with_reducible refine Below.alloc ?_ ?_ _) | (with_reducible refine Below.drew ?_) | (with_reducible refine bdn ?_ _) | (with_reducible refine Below.setCell ?_ ?_ _) | go_size))⟩
      | true =>
        have HN := Lib.hid (parse_some (s := s) (c := ⟨v0, v1, v2, v3⟩) (by rw [HG.out]; unfold okM; rw [HPl.out, hq]; rfl))
        go_wp2
        exact bodyPost_ret (v := .tuple #[cov ⟨v0, v1, v2, v3⟩, .int .i64 0]) (by simp [results, Tryz.results31, go_sem, zeroM, *]) rfl ⟨ret_pe HN.out.1 HN.out.2, by (repeat' (first | (with_reducible exact Below.refl _ _) | (with_reducible assumption) | (with_reducible refine Below.alloc ?_ ?_ _) | (with_reducible refine Below.drew ?_) | (with_reducible refine bdn ?_ _) | (with_reducible refine Below.setCell ?_ ?_ _) | go_size))⟩
  · have hlt : (((partsB s).length : Int) != 4) = true := by rw [bne_iff_ne]; omega
    have HN := Lib.hid (parse_none (bad_len hl)); clear hl
    go_enter Tryz.func31, Tryz.ntmps31
    go_wp2_with (first | (go_at_call 42; refine (split_any s hs _ (hT.out.below (by (repeat' (first | (with_reducible exact Below.refl _ _) | (with_reducible assumption) | (with_reducible refine Below.alloc ?_ ?_ _) | (with_reducible refine Below.drew ?_) | (with_reducible refine bdn ?_ _) | (with_reducible refine Below.setCell ?_ ?_ _) | go_size))))).mono ?_; rintro e w1 ⟨rfl, rfl⟩) | (go_at_call 26; refine (words_any _).mono ?_; rintro e w2 ⟨rfl, hb2⟩; obtain ⟨hc, hf⟩ := bcell hb2; have hz := hb2.size; simp at hz; have hB2 : Below w.heap.size w w2 := bup (w := w) (by (repeat' (first | (with_reducible exact Below.refl _ _) | (with_reducible assumption) | (with_reducible refine Below.alloc ?_ ?_ _) | (with_reducible refine Below.drew ?_) | (with_reducible refine bdn ?_ _) | (with_reducible refine Below.setCell ?_ ?_ _) | go_size))) hb2 (by go_size)))
    have hb := (Mild.Bks.closed _ _ (parse_start s w) hb2).blocks
    simp only [List.forall_mem_cons, List.not_mem_nil, false_imp_iff, implies_true, and_true] at hb
    obtain ⟨bA, bR, bS⟩ := hb
    have cz := fun o => (Mild.cell_of_block bR o)
    clear hc hf bA bS
    refine bodyPost_ret (v := .tuple #[cov zeroM, .int .i64 3]) (by simp [results, Tryz.results31, go_sem, zeroM, *]) rfl ⟨ret_pe HN.out.1 HN.out.2, by (repeat' (first | (with_reducible exact Below.refl _ _) | (with_reducible assumption) | (with_reducible refine Below.alloc ?_ ?_ _) | (with_reducible refine Below.drew ?_) | (with_reducible refine bdn ?_ _) | (with_reducible refine Below.setCell ?_ ?_ _) | go_size))⟩
end Go.Proofs.YtajccjbigcdkbaaGreatDoor
