/- The examples: a walk. -/
import Derived.Test.YtajccjbigcdkbaaGreatDoorPb
import Derived.Test.YtajccjbigcdkbaaGreatDoorMz
-- USEBDN
set_option linter.unusedSimpArgs false
set_option linter.unusedVariables false
namespace Go.Proofs.YtajccjbigcdkbaaGreatDoor
open Go.ChangeShapes Go.WideShapes Go.ChangeAt Go.RowKit
theorem exC_rng : Rng exC := ⟨by decide, by decide, by decide, by decide⟩
theorem ext_any (w : World) (ht : Tabs w) : Calls Tryz.prog 13 #[.agg #[.int .i64 12, .int .i64 3, .int .i64 4, .int .i64 0]] w fun e w' => e = .returned (.string ⟨#[105, 115, 115, 117, 101, 115, 32, 49, 50, 44, 32, 115, 99, 97, 108, 97, 114, 115, 32, 51, 44, 32, 109, 111, 118, 101, 115, 32, 52, 44, 32, 109, 97, 115, 107, 101, 100, 32, 48]⟩) ∧ Below w.heap.size w w' := by
  have := text_any exC w ht exC_rng
  rw [ex_text] at this
  exact this
theorem exp_any (w : World) (ht : Tabs w) : Calls Tryz.prog 15 #[.string ⟨#[105, 115, 115, 117, 101, 115, 32, 49, 50, 44, 32, 115, 99, 97, 108, 97, 114, 115, 32, 51, 44, 32, 109, 111, 118, 101, 115, 32, 52, 44, 32, 109, 97, 115, 107, 101, 100, 32, 48]⟩] w fun e w' => e = .returned (.agg #[.int .i64 12, .int .i64 3, .int .i64 4, .int .i64 0, .int .i64 0]) ∧ Below w.heap.size w w' := by
  have h := parse_some ex_parse
  have := parsed_ce exT (by decide) exC 0 (Lib.hid h) w ht
  exact this
theorem exn_any (w : World) (ht : Tabs w) : Calls Tryz.prog 15 #[.string ⟨#[]⟩] w fun e w' => e = .returned (.agg #[.int .i64 0, .int .i64 0, .int .i64 0, .int .i64 0, .int .i64 3]) ∧ Below w.heap.size w w' := by
  have h := parse_none ex_empty
  have := parsed_ce ⟨#[]⟩ (by decide) zeroM 3 (Lib.hid h) w ht
  exact this
abbrev exL : Array Value := #[.int .i64 5, .int .i64 0, .int .i64 10, .int .i64 1, .int .i64 100, .int .i64 2, .int .i64 3, .int .i64 4]
theorem ex_row {W : World} {L : Nat} (h : W.heap[L]? = some (.cells exL 23)) : Row4 W L 0 [exD, exE] := by
  intro j hj
  have c := Mild.cell_of_block h
  match j, hj with
  | 0, _ => exact ⟨c 0, c 1, c 2, c 3⟩
  | 1, _ => exact ⟨c 4, c 5, c 6, c 7⟩
theorem exr_any (W : World) (ht : Tabs W) (b L : Nat) (hb : W.heap[b]? = some (.cells #[.string ⟨#[97]⟩, .string ⟨#[108, 111, 110, 103]⟩] 9)) (hL : W.heap[L]? = some (.cells exL 23)) :
    Calls Tryz.prog 19 #[.slice (some ⟨b, 0, none⟩) 2 2, .slice (some ⟨L, 0, none⟩) 2 2] W fun e w' => e = .returned (.agg #[.string ⟨List.toArray (110 :: 97 :: 109 :: 101 :: 32 :: 32 :: 32 :: 105 :: 115 :: 115 :: 117 :: 101 :: 115 :: 32 :: 32 :: 115 :: 99 :: 97 :: 108 :: 97 :: 114 :: 115 :: 32 :: 32 :: 109 :: 111 :: 118 :: 101 :: 115 :: 32 :: 32 :: 109 :: 97 :: 115 :: 107 :: 101 :: 100 :: 10 :: 97 :: 32 :: 32 :: 32 :: 32 :: 32 :: 32 :: 32 :: 32 :: 32 :: 32 :: 32 :: 53 :: 32 :: 32 :: 32 :: 32 :: 32 :: 32 :: 32 :: 32 :: 48 :: 32 :: 32 :: 32 :: 32 :: 32 :: 49 :: 48 :: 32 :: 32 :: 32 :: 32 :: 32 :: 32 :: 32 :: 49 :: 10 :: 108 :: 111 :: 110 :: 103 :: 32 :: 32 :: 32 :: 32 :: 32 :: 32 :: 49 :: 48 :: 48 :: 32 :: 32 :: 32 :: 32 :: 32 :: 32 :: 32 :: 32 :: 50 :: 32 :: 32 :: 32 :: 32 :: 32 :: 32 :: 51 :: 32 :: 32 :: 32 :: 32 :: 32 :: 32 :: 32 :: 52 :: 10 :: 116 :: 111 :: 116 :: 97 :: 108 :: 32 :: 32 :: 32 :: 32 :: 32 :: 49 :: 48 :: 53 :: 32 :: 32 :: 32 :: 32 :: 32 :: 32 :: 32 :: 32 :: 50 :: 32 :: 32 :: 32 :: 32 :: 32 :: 49 :: 51 :: 32 :: 32 :: 32 :: 32 :: 32 :: 32 :: 32 :: 53 :: 10 :: [])⟩, .int .i64 0]) ∧ Below W.heap.size W w' := by
  have := told_any [⟨#[97]⟩, ⟨#[108, 111, 110, 103]⟩] [exD, exE] (some ⟨b, 0, none⟩) 2 L 0 2 W ht (fun j x hx => ⟨b, 0, rfl, Mild.lt_of_block hb, by
    rw [Nat.zero_add, Mild.cell_of_block hb]
    match j, hx with
    | 0, hx => cases hx; rfl
    | 1, hx => cases hx; rfl⟩) (Mild.lt_of_block hL) (ex_row hL)
  rw [ex_report.1, ex_report.2] at this
  exact this
theorem exm_any (W : World) (ht : Tabs W) (L : Nat) (hL : W.heap[L]? = some (.cells exL 23)) :
    Calls Tryz.prog 19 #[.slice none 0 0, .slice (some ⟨L, 0, none⟩) 2 2] W fun e w' => e = .returned (.agg #[.string ⟨#[]⟩, .int .i64 1]) ∧ Below W.heap.size W w' := by
  have := told_any [] [exD, exE] none 0 L 0 2 W ht (fun j x hx => by cases hx) (Mild.lt_of_block hL) (ex_row hL)
  have hb := rep_bad1 (names := []) (cs := [exD, exE]) (by decide)
  rw [hb.1, hb.2] at this
  exact this
theorem field38 (a b c d e : Int) (w : World) : (Instr.field 35 (.agg #[.int .i64 a, .int .i64 b, .int .i64 c, .int .i64 d, .int .i64 e]) 1).run Tryz.prog w = .ok (.int .i64 e) w := by kernel_rfl
theorem field47 (S : ByteArray) (e : Int) (w : World) : (Instr.field 40 (.agg #[.string S, .int .i64 e]) 1).run Tryz.prog w = .ok (.int .i64 e) w := by kernel_rfl
def IsPair (v : Value) (lo hi : Nat) (W : World) : Prop := ∃ b, v = .slice (some ⟨b, 0, none⟩) 2 2 ∧ W.heap[b]? = some (.cells #[.string ⟨#[97]⟩, .string ⟨#[108, 111, 110, 103]⟩] 9)

set_option maxRecDepth 100000 in
set_option maxHeartbeats 4000000 in
theorem ex4 (w0 W : World) (ht : Tabs w0) (A L : Nat) (hC : Mild.Bks w0.heap.size w0 [(A, .cells (coc exC) 23), (L, .cells exL 23)] W)
    (j4 j5 j6 j7 j8 j9 j10 j11 j12 j13 j14 j15 j16 j17 j18 j19 j20 j21 j22 j23 j24 j25 j26 j27 j28 j29 j30 j31 j32 j33 j34 j35 j36 j37 j38 j39 j40 j41 j42 j43 j44 j45 j46 j47 j48 j49 j50 j51 j52 j53 j54 j55 j56 j57 j58 j59 j60 j61 j62 j63 j64 j65 j66 : Value) (Q0 : Exit → Act → World → Prop)
    (h0 : ∀ j8 j9 j10 j11 j12 j13 j14 j15 j16 j17 j18 j19 j20 j21 j22 j23 j24 j25 j26 j27 j28 j29 j30 j31 j32 j33 j34 W', Mild.Bks w0.heap.size w0 [(A, .cells (coc exC) 23), (L, .cells exL 23)] W' → Q0 .normal { tmps := #[.bool false, pt A 0, .slice (some ⟨L, 0, none⟩) 2 2, .string ⟨List.toArray (110 :: 97 :: 109 :: 101 :: 32 :: 32 :: 32 :: 105 :: 115 :: 115 :: 117 :: 101 :: 115 :: 32 :: 32 :: 115 :: 99 :: 97 :: 108 :: 97 :: 114 :: 115 :: 32 :: 32 :: 109 :: 111 :: 118 :: 101 :: 115 :: 32 :: 32 :: 109 :: 97 :: 115 :: 107 :: 101 :: 100 :: 10 :: 97 :: 32 :: 32 :: 32 :: 32 :: 32 :: 32 :: 32 :: 32 :: 32 :: 32 :: 32 :: 53 :: 32 :: 32 :: 32 :: 32 :: 32 :: 32 :: 32 :: 32 :: 48 :: 32 :: 32 :: 32 :: 32 :: 32 :: 49 :: 48 :: 32 :: 32 :: 32 :: 32 :: 32 :: 32 :: 32 :: 49 :: 10 :: 108 :: 111 :: 110 :: 103 :: 32 :: 32 :: 32 :: 32 :: 32 :: 32 :: 49 :: 48 :: 48 :: 32 :: 32 :: 32 :: 32 :: 32 :: 32 :: 32 :: 32 :: 50 :: 32 :: 32 :: 32 :: 32 :: 32 :: 32 :: 51 :: 32 :: 32 :: 32 :: 32 :: 32 :: 32 :: 32 :: 52 :: 10 :: 116 :: 111 :: 116 :: 97 :: 108 :: 32 :: 32 :: 32 :: 32 :: 32 :: 49 :: 48 :: 53 :: 32 :: 32 :: 32 :: 32 :: 32 :: 32 :: 32 :: 32 :: 50 :: 32 :: 32 :: 32 :: 32 :: 32 :: 49 :: 51 :: 32 :: 32 :: 32 :: 32 :: 32 :: 32 :: 32 :: 53 :: 10 :: [])⟩, j4, j5, j6, j7, j8, j9, j10, j11, j12, j13, j14, j15, j16, j17, j18, j19, j20, j21, j22, j23, j24, j25, j26, j27, j28, j29, j30, j31, j32, j33, j34, .bool false, j36, j37, j38, j39, j40, j41, j42, j43, j44, j45, j46, j47, j48, j49, j50, j51, j52, j53, j54, j55, j56, j57, j58, j59, j60, j61, j62, j63, j64, j65, j66], defers := [] } W') :
    (navC [1, 1, 1, 1, 0, 0] (Tryz.f4.body.getD .skip)).wp Tryz.prog Q0 { tmps := #[.bool false, pt A 0, .slice (some ⟨L, 0, none⟩) 2 2, .string ⟨List.toArray (110 :: 97 :: 109 :: 101 :: 32 :: 32 :: 32 :: 105 :: 115 :: 115 :: 117 :: 101 :: 115 :: 32 :: 32 :: 115 :: 99 :: 97 :: 108 :: 97 :: 114 :: 115 :: 32 :: 32 :: 109 :: 111 :: 118 :: 101 :: 115 :: 32 :: 32 :: 109 :: 97 :: 115 :: 107 :: 101 :: 100 :: 10 :: 97 :: 32 :: 32 :: 32 :: 32 :: 32 :: 32 :: 32 :: 32 :: 32 :: 32 :: 32 :: 53 :: 32 :: 32 :: 32 :: 32 :: 32 :: 32 :: 32 :: 32 :: 48 :: 32 :: 32 :: 32 :: 32 :: 32 :: 49 :: 48 :: 32 :: 32 :: 32 :: 32 :: 32 :: 32 :: 32 :: 49 :: 10 :: 108 :: 111 :: 110 :: 103 :: 32 :: 32 :: 32 :: 32 :: 32 :: 32 :: 49 :: 48 :: 48 :: 32 :: 32 :: 32 :: 32 :: 32 :: 32 :: 32 :: 32 :: 50 :: 32 :: 32 :: 32 :: 32 :: 32 :: 32 :: 51 :: 32 :: 32 :: 32 :: 32 :: 32 :: 32 :: 32 :: 52 :: 10 :: 116 :: 111 :: 116 :: 97 :: 108 :: 32 :: 32 :: 32 :: 32 :: 32 :: 49 :: 48 :: 53 :: 32 :: 32 :: 32 :: 32 :: 32 :: 32 :: 32 :: 32 :: 50 :: 32 :: 32 :: 32 :: 32 :: 32 :: 49 :: 51 :: 32 :: 32 :: 32 :: 32 :: 32 :: 32 :: 32 :: 53 :: 10 :: [])⟩, j4, j5, j6, j7, j8, j9, j10, j11, j12, j13, j14, j15, j16, j17, j18, j19, j20, j21, j22, j23, j24, j25, j26, j27, j28, j29, j30, j31, j32, j33, j34, j35, j36, j37, j38, j39, j40, j41, j42, j43, j44, j45, j46, j47, j48, j49, j50, j51, j52, j53, j54, j55, j56, j57, j58, j59, j60, j61, j62, j63, j64, j65, j66], defers := [] } W := by
  conv => arg 2; whnf
  have HT := Lib.hid ht; clear ht
  refine Tell.region_told 27 [⟨15, 23, IsPair⟩] (Mild.Bks w0.heap.size w0 [(A, .cells (coc exC) 23), (L, .cells exL 23)]) (by kernel_rfl) [(15, 23)] rfl 67 (by kernel_rfl) rfl (by simp) Mild.Bks.closed ?hR hC ?H
  case hR =>
    simp only [List.forall_mem_cons, List.not_mem_nil, false_imp_iff, implies_true, and_true]
    rintro v x y W W' ⟨b, h1, h2⟩ hb
    exact ⟨b, h1, by rw [hb.block b (Mild.lt_of_block h2)]; exact h2⟩
  apply Exists.intro
  refine ⟨?HW, ?HA, ?HT⟩
  case HW =>
    intro vals W hW
    have hb := hW.blocks
    simp only [List.forall_mem_cons, List.not_mem_nil, false_imp_iff, implies_true, and_true] at hb
    obtain ⟨bA, bL⟩ := hb
    have cA : ∀ k, W.cell? ⟨A, k, none⟩ = (#[.int .i64 12, .int .i64 3, .int .i64 4, .int .i64 0] : Array Value)[k]? := Mild.cell_of_block bA
    have HL := Lib.hid bL
    have HW := Lib.hid (HT.out.below hW.below)
    clear hW bA bL
    have hf1 := field38 0 0 0 0 3
    simp only [List.take_succ_cons, List.take_zero]
    apply Tell.walk_q rfl rfl
    go_wp2
    refine ⟨rfl, rfl, Below.refl _ _, ?_⟩
    apply Tell.walk_q rfl rfl
    go_wp2_with (go_at_call 13; refine (ext_any _ HW.out).mono ?_; rintro e w1 ⟨rfl, hb⟩)
    refine ⟨rfl, rfl, hb, ?_⟩
    apply Tell.walk_q rfl rfl
    go_wp2
    refine ⟨rfl, rfl, Below.refl _ _, ?_⟩
    apply Tell.walk_q rfl rfl
    go_wp2
    refine ⟨rfl, rfl, Below.refl _ _, ?_⟩
    apply Tell.walk_q rfl rfl
    go_wp2_with (go_at_call 15; refine (exp_any _ HW.out).mono ?_; rintro e w1 ⟨rfl, hb⟩)
    refine ⟨rfl, rfl, hb, ?_⟩
    apply Tell.walk_q rfl rfl
    go_wp2
    refine ⟨rfl, rfl, Below.refl _ _, ?_⟩
    apply Tell.walk_q rfl rfl
    go_wp2
    refine ⟨rfl, rfl, Below.refl _ _, ?_⟩
    apply Tell.walk_q rfl rfl
    go_wp2
    refine ⟨rfl, rfl, Below.refl _ _, ?_⟩
    apply Tell.walk_q rfl rfl
    go_wp2
    refine ⟨rfl, rfl, Below.refl _ _, ?_⟩
    apply Tell.walk_q rfl rfl
    go_wp2
    refine ⟨rfl, rfl, Below.refl _ _, ?_⟩
    apply Tell.walk_q rfl rfl
    go_wp2_with (go_at_call 15; refine (exn_any _ HW.out).mono ?_; rintro e w1 ⟨rfl, hb⟩)
    refine ⟨rfl, rfl, hb, ?_⟩
    apply Tell.walk_q rfl rfl
    go_wp2
    refine ⟨rfl, rfl, Below.refl _ _, ?_⟩
    apply Tell.walk_q rfl rfl
    go_wp2
    refine ⟨rfl, rfl, Below.refl _ _, ?_⟩
    apply Tell.walk_q rfl rfl
    go_wp2
    refine ⟨rfl, rfl, Below.refl _ _, ?_⟩
    apply Tell.walk_q rfl rfl
    go_wp2
    refine ⟨rfl, rfl, Below.refl _ _, ?_⟩
    refine Tell.walk_t _ (List.mem_cons_self ..) rfl (by simp) ?_ ?_
    · intro _
      go_wp2
      exact ⟨rfl, rfl, (Below.refl _ _).alloc (Nat.le_refl _) _, W.heap.size, rfl, Mild.alloc_at _ _⟩
    simp only [Act.put, List.setIfInBounds_toArray, List.set_cons_zero, List.set_cons_succ]
    apply Tell.walk_q rfl rfl
    go_wp2
    refine ⟨rfl, rfl, Below.refl _ _, ?_⟩
    refine Tell.walk_u rfl rfl ⟨.agg #[.string ⟨List.toArray (110 :: 97 :: 109 :: 101 :: 32 :: 32 :: 32 :: 105 :: 115 :: 115 :: 117 :: 101 :: 115 :: 32 :: 32 :: 115 :: 99 :: 97 :: 108 :: 97 :: 114 :: 115 :: 32 :: 32 :: 109 :: 111 :: 118 :: 101 :: 115 :: 32 :: 32 :: 109 :: 97 :: 115 :: 107 :: 101 :: 100 :: 10 :: 97 :: 32 :: 32 :: 32 :: 32 :: 32 :: 32 :: 32 :: 32 :: 32 :: 32 :: 32 :: 53 :: 32 :: 32 :: 32 :: 32 :: 32 :: 32 :: 32 :: 32 :: 48 :: 32 :: 32 :: 32 :: 32 :: 32 :: 49 :: 48 :: 32 :: 32 :: 32 :: 32 :: 32 :: 32 :: 32 :: 49 :: 10 :: 108 :: 111 :: 110 :: 103 :: 32 :: 32 :: 32 :: 32 :: 32 :: 32 :: 49 :: 48 :: 48 :: 32 :: 32 :: 32 :: 32 :: 32 :: 32 :: 32 :: 32 :: 50 :: 32 :: 32 :: 32 :: 32 :: 32 :: 32 :: 51 :: 32 :: 32 :: 32 :: 32 :: 32 :: 32 :: 32 :: 52 :: 10 :: 116 :: 111 :: 116 :: 97 :: 108 :: 32 :: 32 :: 32 :: 32 :: 32 :: 49 :: 48 :: 53 :: 32 :: 32 :: 32 :: 32 :: 32 :: 32 :: 32 :: 32 :: 50 :: 32 :: 32 :: 32 :: 32 :: 32 :: 49 :: 51 :: 32 :: 32 :: 32 :: 32 :: 32 :: 32 :: 32 :: 53 :: 10 :: [])⟩, .int .i64 0], ?_, ?_⟩
    · intro hy
      obtain ⟨lo, hi, ho, _⟩ := hy _ (List.mem_cons_self ..) (by kernel_rfl)
      obtain ⟨b, hv, hbb⟩ : ∃ b, vals 15 = .slice (some ⟨b, 0, none⟩) 2 2 ∧ W.heap[b]? = some (.cells #[.string ⟨#[97]⟩, .string ⟨#[108, 111, 110, 103]⟩] 9) := ho
      rw [hv]
      have HBB := Lib.hid hbb
      clear hy hbb hv
      go_wp2_with (go_at_call 19; refine (exr_any _ HW.out b L HBB.out HL.out).mono ?_; rintro e w1 ⟨rfl, hb⟩)
      refine ⟨rfl, rfl, hb, ?_⟩
      rintro d ⟨⟩
      rfl
    simp only [Act.put, List.setIfInBounds_toArray, List.set_cons_zero, List.set_cons_succ]
    apply Tell.walk_q rfl rfl
    go_wp2
    refine ⟨rfl, rfl, Below.refl _ _, ?_⟩
    apply Tell.walk_q rfl rfl
    go_wp2
    refine ⟨rfl, rfl, Below.refl _ _, ?_⟩
    apply Tell.walk_q rfl rfl
    go_wp2
    refine ⟨rfl, rfl, Below.refl _ _, ?_⟩
    apply Tell.walk_q rfl rfl
    go_wp2
    refine ⟨rfl, rfl, Below.refl _ _, ?_⟩
    apply Tell.walk_q rfl rfl
    go_wp2
    refine ⟨rfl, rfl, Below.refl _ _, ?_⟩
    apply Tell.walk_q rfl rfl
    go_wp2
    refine ⟨rfl, rfl, Below.refl _ _, ?_⟩
    have hf2 := field47 ⟨#[]⟩ 1
    apply Tell.walk_q rfl rfl
    go_wp2_with (go_at_call 19; refine (exm_any _ HW.out L HL.out).mono ?_; rintro e w1 ⟨rfl, hb⟩)
    refine ⟨rfl, rfl, hb, ?_⟩
    apply Tell.walk_q rfl rfl
    go_wp2
    refine ⟨rfl, rfl, Below.refl _ _, ?_⟩
    apply Tell.walk_q rfl rfl
    go_wp2
    refine ⟨rfl, rfl, Below.refl _ _, ?_⟩
    exact Tell.walk_end rfl
  case HA => exact fun _ => rfl
  case HT =>
    intro vals lo hi w2 hC2 _ _
    simp only [List.drop_succ_cons, List.drop_zero]
    have HC2 := Lib.hid hC2; clear hC2 hC
    go_wp2
    exact HC2.out
end Go.Proofs.YtajccjbigcdkbaaGreatDoor
