/- MeterTexts: the five texts. -/
import Derived.Test.YtajccjbigcdkbaaDoorMz
import Derived.Test.YtajccjbigcdkbaaDoorCls
import Derived.Test.YtajccjbigcdkbaaDoorTell
import Derived.Laws.BytesArg
-- USEBDN
set_option linter.unusedSimpArgs false
set_option linter.unusedVariables false
namespace Go.Proofs.YtajccjbigcdkbaaDoor
open Go.ChangeShapes Go.WideShapes Go.ChangeAt Go.RowKit
theorem conv_one {W : World} {b : Nat} {q : Int} (h : W.heap[b]? = some (.cells #[.int .u8 q] 5)) : (convert 40 9 (.slice (some ⟨b, 0, none⟩) 1 1)).run Tryd.prog W = .ok (.string (strOfNums [q])) W :=
  run_convert_bytes_arg W 40 5 Tryd.underlying40 Tryd.underlying5 b 0 1 1 [q] rfl (fun i hi => by
    obtain rfl : i = 0 := by omega
    exact Mild.cell_of_block h 0) _ Tryd.underlying9
def IsByte (q : Int) (v : Value) (lo hi : Nat) (W : World) : Prop := ∃ b, v = .slice (some ⟨b, 0, none⟩) 1 1 ∧ W.heap[b]? = some (.cells #[.int .u8 q] 5)

set_option maxRecDepth 100000 in
set_option maxHeartbeats 4000000 in
theorem texts9 (w0 W : World) (X Y : Nat) (p q r : Int) (s : ByteArray) (i : Nat) (hi : i < s.size) (hs : s.size < 400) (hC : Mild.Bks w0.heap.size w0 [(Y, .cells #[.int .u8 p, .int .u8 q, .int .u8 r] 34)] W)
    (j0 j1 j4 j5 j6 j7 j10 j11 j12 j13 j14 j15 j16 j17 j18 j19 j20 j21 j22 j23 j24 j25 j26 j27 j28 j29 j30 j31 j32 j33 j34 j35 j36 j37 j38 j39 j40 j41 j42 j43 j44 j45 j46 j47 j48 j49 j50 j51 j52 j53 j54 j55 j56 j57 j58 j59 j60 j61 j62 j63 j64 j65 j66 j67 j68 j69 j70 j71 j72 j73 j74 j75 j76 j77 j78 j79 j80 j81 j82 j83 j84 j85 j86 j87 j88 j89 j90 j91 j92 j93 j94 j95 j96 j97 j98 j99 j100 j101 j102 j103 j104 j105 j106 j107 j108 j109 j110 j111 j112 j113 j114 j115 j116 j117 j118 j119 j120 j121 j122 j123 j124 j125 j126 j127 j128 j129 j130 : Value) (Q0 : Exit → Act → World → Prop)
    (h0 : ∀ j50 j51 j52 j53 j54 j55 j56 j57 j58 j59 j60 j61 j62 j63 j64 j65 j66 j67 j68 j69 j70 j71 j72 j73 j74 j75 j76 j77 j78 j79 j80 j81 j82 j83 j84 j85 j86 j87 j88 j89 L S0 S1 S2 S3 S4 W', (S0.size < 4294967281 ∧ S1.size < 4294967281 ∧ S2.size < 4294967281 ∧ S3.size < 4294967281 ∧ S4.size < 4294967281) → Mild.Bks w0.heap.size w0 [(L, .cells #[.string S0, .string S1, .string S2, .string S3, .string S4] 9)] W' → Q0 .normal { tmps := #[j0, j1, pt X 0, pt Y 0, j4, j5, j6, j7, .string s, .int .i64 i, .slice (some ⟨L, 0, none⟩) 5 5, j11, j12, j13, j14, j15, j16, j17, j18, j19, j20, j21, j22, j23, j24, j25, j26, j27, j28, j29, j30, j31, j32, j33, j34, j35, j36, j37, j38, j39, j40, j41, j42, j43, j44, j45, j46, j47, j48, j49, j50, j51, j52, j53, j54, j55, j56, j57, j58, j59, j60, j61, j62, j63, j64, j65, j66, j67, j68, j69, j70, j71, j72, j73, j74, j75, j76, j77, j78, j79, j80, j81, j82, j83, j84, j85, j86, j87, j88, j89, j90, j91, j92, j93, j94, j95, j96, j97, j98, j99, j100, j101, j102, j103, j104, j105, j106, j107, j108, j109, j110, j111, j112, j113, j114, j115, j116, j117, j118, j119, j120, j121, j122, j123, j124, j125, j126, j127, j128, j129, j130], defers := [] } W') :
    (navC [1, 1, 1, 1, 1, 1, 1, 0] (Tryd.f4.body.getD .skip)).wp Tryd.prog Q0 { tmps := #[j0, j1, pt X 0, pt Y 0, j4, j5, j6, j7, .string s, .int .i64 i, j10, j11, j12, j13, j14, j15, j16, j17, j18, j19, j20, j21, j22, j23, j24, j25, j26, j27, j28, j29, j30, j31, j32, j33, j34, j35, j36, j37, j38, j39, j40, j41, j42, j43, j44, j45, j46, j47, j48, j49, j50, j51, j52, j53, j54, j55, j56, j57, j58, j59, j60, j61, j62, j63, j64, j65, j66, j67, j68, j69, j70, j71, j72, j73, j74, j75, j76, j77, j78, j79, j80, j81, j82, j83, j84, j85, j86, j87, j88, j89, j90, j91, j92, j93, j94, j95, j96, j97, j98, j99, j100, j101, j102, j103, j104, j105, j106, j107, j108, j109, j110, j111, j112, j113, j114, j115, j116, j117, j118, j119, j120, j121, j122, j123, j124, j125, j126, j127, j128, j129, j130], defers := [] } W := by
  conv => arg 2; whnf
  have H0 := Lib.hid h0; clear h0
  have hz1 : (strOfNums [q]).size = 1 := strOfNums_size [q]
  have hi1 : (i : Int) ≤ s.size := by omega
  have hi2 : (i : Int) + 1 ≤ s.size := by omega
  refine Tell.region_told 39 [⟨5, 55, IsByte q⟩, ⟨26, 76, IsByte q⟩] (Mild.Bks w0.heap.size w0 [(Y, .cells #[.int .u8 p, .int .u8 q, .int .u8 r] 34)]) (by kernel_rfl) [(5, 55), (26, 76)] rfl 131 (by kernel_rfl) rfl (by simp) Mild.Bks.closed ?hR hC ?H
  case hR =>
    simp only [List.forall_mem_cons, List.not_mem_nil, false_imp_iff, implies_true, and_true]
    constructor <;>
    · rintro v x y W W' ⟨b, h1, h2⟩ hb
      exact ⟨b, h1, by rw [hb.block b (Mild.lt_of_block h2)]; exact h2⟩
  apply Exists.intro
  refine ⟨?HW, ?HA, ?HT⟩
  case HW =>
    intro vals W hW
    have hb := hW.blocks
    simp only [List.forall_mem_cons, List.not_mem_nil, false_imp_iff, implies_true, and_true] at hb
    have cY := Mild.cell_of_block hb
    clear hW hb
    simp only [List.take_succ_cons, List.take_zero]
    apply Tell.walk_q rfl rfl
    go_wp2
    refine ⟨rfl, rfl, Below.refl _ _, ?_⟩
    apply Tell.walk_q rfl rfl
    go_wp2
    refine ⟨rfl, rfl, Below.refl _ _, ?_⟩
    apply Tell.walk_q rfl rfl
    go_wp2
    refine ⟨rfl, rfl, Below.refl _ _, ?_⟩
    apply Tell.walk_q rfl rfl
    go_wp2
    refine ⟨rfl, rfl, Below.refl _ _, ?_⟩
    apply Tell.walk_q rfl rfl
    go_wp2
    refine ⟨rfl, rfl, Below.refl _ _, ?_⟩
    refine Tell.walk_t ⟨5, 55, IsByte q⟩ (by simp) rfl (by simp) ?_ ?_
    · intro _
      go_wp2
      exact ⟨rfl, rfl, (Below.refl _ _).alloc (Nat.le_refl _) _, W.heap.size, rfl, Mild.alloc_at _ _⟩
    simp only [Act.put, List.setIfInBounds_toArray, List.set_cons_zero, List.set_cons_succ]
    refine Tell.walk_u rfl rfl ⟨.string (strOfNums [q]), ?_, ?_⟩
    · intro hy
      obtain ⟨lo, hi, ho, _⟩ := hy ⟨5, 55, IsByte q⟩ (by simp) (by kernel_rfl)
      obtain ⟨b, hv, hbb⟩ : ∃ b, vals 5 = .slice (some ⟨b, 0, none⟩) 1 1 ∧ W.heap[b]? = some (.cells #[.int .u8 q] 5) := ho
      rw [hv]
      have hcv := conv_one (W := W) hbb
      clear hy hbb hv
      go_wp2
      refine ⟨rfl, rfl, Below.refl _ _, ?_⟩
      first | rfl | (rintro d ⟨⟩; rfl)
    simp only [Act.put, List.setIfInBounds_toArray, List.set_cons_zero, List.set_cons_succ]
    apply Tell.walk_q rfl rfl
    go_wp2
    refine ⟨rfl, rfl, Below.refl _ _, ?_⟩
    apply Tell.walk_q rfl rfl
    go_wp2
    refine ⟨rfl, rfl, Below.refl _ _, ?_⟩
    apply Tell.walk_q rfl rfl
    go_wp2
    refine ⟨rfl, rfl, Below.refl _ _, ?_⟩
    apply Tell.walk_q rfl rfl
    go_wp2
    refine ⟨rfl, rfl, Below.refl _ _, ?_⟩
    apply Tell.walk_q rfl rfl
    go_wp2
    refine ⟨rfl, rfl, Below.refl _ _, ?_⟩
    apply Tell.walk_q rfl rfl
    go_wp2
    refine ⟨rfl, rfl, Below.refl _ _, ?_⟩
    apply Tell.walk_q rfl rfl
    go_wp2
    refine ⟨rfl, rfl, Below.refl _ _, ?_⟩
    apply Tell.walk_q rfl rfl
    go_wp2
    refine ⟨rfl, rfl, Below.refl _ _, ?_⟩
    apply Tell.walk_q rfl rfl
    go_wp2
    refine ⟨rfl, rfl, Below.refl _ _, ?_⟩
    apply Tell.walk_q rfl rfl
    go_wp2
    refine ⟨rfl, rfl, Below.refl _ _, ?_⟩
    apply Tell.walk_q rfl rfl
    go_wp2
    refine ⟨rfl, rfl, Below.refl _ _, ?_⟩
    apply Tell.walk_q rfl rfl
    go_wp2
    refine ⟨rfl, rfl, Below.refl _ _, ?_⟩
    apply Tell.walk_q rfl rfl
    go_wp2
    refine ⟨rfl, rfl, Below.refl _ _, ?_⟩
    apply Tell.walk_q rfl rfl
    go_wp2
    refine ⟨rfl, rfl, Below.refl _ _, ?_⟩
    apply Tell.walk_q rfl rfl
    go_wp2
    refine ⟨rfl, rfl, Below.refl _ _, ?_⟩
    apply Tell.walk_q rfl rfl
    go_wp2
    refine ⟨rfl, rfl, Below.refl _ _, ?_⟩
    apply Tell.walk_q rfl rfl
    go_wp2
    refine ⟨rfl, rfl, Below.refl _ _, ?_⟩
    apply Tell.walk_q rfl rfl
    go_wp2
    refine ⟨rfl, rfl, Below.refl _ _, ?_⟩
    apply Tell.walk_q rfl rfl
    go_wp2
    refine ⟨rfl, rfl, Below.refl _ _, ?_⟩
    refine Tell.walk_t ⟨26, 76, IsByte q⟩ (by simp) rfl (by simp) ?_ ?_
    · intro _
      go_wp2
      exact ⟨rfl, rfl, (Below.refl _ _).alloc (Nat.le_refl _) _, W.heap.size, rfl, Mild.alloc_at _ _⟩
    simp only [Act.put, List.setIfInBounds_toArray, List.set_cons_zero, List.set_cons_succ]
    refine Tell.walk_u rfl rfl ⟨.string (strOfNums [q]), ?_, ?_⟩
    · intro hy
      obtain ⟨lo, hi, ho, _⟩ := hy ⟨26, 76, IsByte q⟩ (by simp) (by kernel_rfl)
      obtain ⟨b, hv, hbb⟩ : ∃ b, vals 26 = .slice (some ⟨b, 0, none⟩) 1 1 ∧ W.heap[b]? = some (.cells #[.int .u8 q] 5) := ho
      rw [hv]
      have hcv := conv_one (W := W) hbb
      clear hy hbb hv
      go_wp2
      refine ⟨rfl, rfl, Below.refl _ _, ?_⟩
      first | rfl | (rintro d ⟨⟩; rfl)
    simp only [Act.put, List.setIfInBounds_toArray, List.set_cons_zero, List.set_cons_succ]
    apply Tell.walk_q rfl rfl
    go_wp2
    refine ⟨rfl, rfl, Below.refl _ _, ?_⟩
    apply Tell.walk_q rfl rfl
    go_wp2
    refine ⟨rfl, rfl, Below.refl _ _, ?_⟩
    apply Tell.walk_q rfl rfl
    go_wp2
    refine ⟨rfl, rfl, Below.refl _ _, ?_⟩
    apply Tell.walk_q rfl rfl
    go_wp2
    refine ⟨rfl, rfl, Below.refl _ _, ?_⟩
    apply Tell.walk_q rfl rfl
    go_wp2
    refine ⟨rfl, rfl, Below.refl _ _, ?_⟩
    apply Tell.walk_q rfl rfl
    go_wp2
    refine ⟨rfl, rfl, Below.refl _ _, ?_⟩
    apply Tell.walk_q rfl rfl
    go_wp2
    refine ⟨rfl, rfl, Below.refl _ _, ?_⟩
    apply Tell.walk_q rfl rfl
    go_wp2
    refine ⟨rfl, rfl, Below.refl _ _, ?_⟩
    apply Tell.walk_q rfl rfl
    go_wp2
    refine ⟨rfl, rfl, Below.refl _ _, ?_⟩
    apply Tell.walk_q rfl rfl
    go_wp2
    refine ⟨rfl, rfl, Below.refl _ _, ?_⟩
    apply Tell.walk_q rfl rfl
    go_wp2
    refine ⟨rfl, rfl, Below.refl _ _, ?_⟩
    exact Tell.walk_end rfl
  case HA => exact fun _ => rfl
  case HT =>
    intro vals lo hi2 w2 hC2 ht _
    clear ht
    simp only [List.drop_succ_cons, List.drop_zero]
    have HC2 := Lib.hid hC2; clear hC2 hC
    go_wp2
    refine H0.out _ _ _ _ _ _ _ _ _ _ _ _ _ _ _ _ _ _ _ _ _ _ _ _ _ _ _ _ _ _ _ _ _ _ _ _ _ _ _ _ w2.heap.size (s.extract 0 i ++ strOfNums [q] ++ s.extract (i + 1) s.size) (s.extract 0 i ++ s.extract (i + 1) s.size) (s.extract 0 i ++ strOfNums [q] ++ s.extract i s.size) (s ++ s) (s.extract 0 i) _ ⟨?_, ?_, ?_, ?_, ?_⟩ ⟨HC2.out.below.alloc (by have := HC2.out.big; omega) _, by have := HC2.out.big; rw [World.size_alloc]; omega, ?_⟩
    iterate 5 (simp only [ByteArray.size_append, ByteArray.size_extract]; omega)
    simp only [List.forall_mem_cons, List.not_mem_nil, false_imp_iff, implies_true, and_true]
    exact Mild.alloc_at _ _
end Go.Proofs.YtajccjbigcdkbaaDoor
