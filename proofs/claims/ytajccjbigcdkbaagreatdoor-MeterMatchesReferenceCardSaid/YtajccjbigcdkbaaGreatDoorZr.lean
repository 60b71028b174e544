/- MeterMatchesReference: the first test. -/
import Derived.Test.YtajccjbigcdkbaaGreatDoorZk
import Derived.Test.YtajccjbigcdkbaaGreatDoorPd
import Derived.Test.YtajccjbigcdkbaaGreatDoorQa
-- USEBDN
set_option linter.unusedSimpArgs false
set_option linter.unusedVariables false
namespace Go.Proofs.YtajccjbigcdkbaaGreatDoor
open Go.ChangeShapes Go.WideShapes Go.ChangeAt Go.RowKit
abbrev two8 (x y : Co) : Array Value := #[.int .i64 x.a, .int .i64 x.b, .int .i64 x.c, .int .i64 x.d, .int .i64 y.a, .int .i64 y.b, .int .i64 y.c, .int .i64 y.d]
abbrev tri (x y p : Co) : Array Value := #[.int .i64 x.a, .int .i64 x.b, .int .i64 x.c, .int .i64 x.d, .int .i64 y.a, .int .i64 y.b, .int .i64 y.c, .int .i64 y.d, .int .i64 p.a, .int .i64 p.b, .int .i64 p.c, .int .i64 p.d]
def Is3 (x y p : Co) (v : Value) (lo hi : Nat) (W : World) : Prop := ∃ b, v = .slice (some ⟨b, 0, none⟩) 3 3 ∧ W.heap[b]? = some (.cells (tri x y p) 23)
theorem tri_row {W : World} {b : Nat} {x y p : Co} (h : W.heap[b]? = some (.cells (tri x y p) 23)) : Row4 W b 0 [x, y, p] := fun j hj => by
  have c := Mild.cell_of_block h
  match j, hj with
  | 0, _ => exact ⟨c 0, c 1, c 2, c 3⟩
  | 1, _ => exact ⟨c 4, c 5, c 6, c 7⟩
  | 2, _ => exact ⟨c 8, c 9, c 10, c 11⟩
theorem sum3 {W : World} {b : Nat} {x y p SM : Co} (h : W.heap[b]? = some (.cells (tri x y p) 23)) (hs : sumM [x, y, p] = SM) : Calls Tryz.prog 17 #[.slice (some ⟨b, 0, none⟩) 3 3] W fun e w' => e = .returned (cov SM) ∧ Below W.heap.size W w' := by
  rw [← hs]
  exact sum_any b 0 3 [x, y, p] W (Mild.lt_of_block h) (by simp) (tri_row h)
theorem rsum3 {W : World} {b : Nat} {x y p SM : Co} (h : W.heap[b]? = some (.cells (tri x y p) 23)) (hs : sumM [x, y, p] = SM) : Calls Tryz.prog 18 #[.slice (some ⟨b, 0, none⟩) 3 3] W fun e w' => e = .returned (cov SM) ∧ Below W.heap.size W w' := by
  rw [← hs]
  exact refsum_any (some ⟨b, 0, none⟩) 3 3 [x, y, p] rfl (by decide) W (fun _ => ⟨b, 0, rfl, Mild.lt_of_block h, tri_row h⟩)
theorem parsein_ce (s : ByteArray) (hs : s.size ≤ 100000) (C : Co) (E : Int) (hCE : Hid (parseC s = C ∧ parseE s = E)) (w : World) :
    Calls Tryz.prog 16 #[.string s] w fun e w' => e = .returned (.agg #[.int .i64 C.a, .int .i64 C.b, .int .i64 C.c, .int .i64 C.d, .int .i64 E]) ∧ Below w.heap.size w w' := by
  have := parsein_any s hs w
  unfold parsedV at this
  rw [hCE.out.1, hCE.out.2] at this
  exact this

set_option maxRecDepth 100000 in
set_option maxHeartbeats 8000000 in
theorem mref7 (w0 W : World) (ht0 : Tabs w0) (A Pb : Nat) (x y p : Co) (s : ByteArray) (hs : s.size ≤ 200) (hp : plainB p = true) (hC : Mild.Bks w0.heap.size w0 [(A, .cells (two8 x y) 24), (Pb, .cells (coc p) 23)] W)
    (j0 j2 j4 j5 j6 j7 j9 j10 j11 j12 j13 j14 j15 j16 j17 j18 j19 j20 j21 j22 j23 j24 j25 j26 j27 j28 j29 j30 j31 j32 j33 j34 j35 j36 j37 j38 j39 j40 j41 j42 j43 j44 j45 j46 j47 j48 j49 j50 j51 j52 j53 j54 j55 j56 j57 j58 j59 j60 j61 j62 j63 j64 j65 j66 j67 j68 j69 j70 j71 j72 j73 j74 j75 j76 j77 j78 j79 j80 j81 j82 j83 j84 j85 j86 j87 j88 j89 j90 j91 j92 j93 j94 j95 j96 j97 j98 j99 j100 j101 j102 j103 j104 j105 j106 j107 j108 j109 j110 j111 j112 j113 j114 j115 j116 j117 j118 j119 j120 j121 j122 j123 j124 j125 j126 j127 j128 j129 j130 j131 j132 j133 j134 j135 j136 j137 j138 j139 j140 j141 j142 j143 j144 j145 j146 j147 j148 j149 j150 j151 j152 j153 j154 j155 j156 j157 j158 j159 j160 j161 : Value) (Q0 : Exit → Act → World → Prop)
    (h0 : ∀ j28 j29 j30 j31 j32 j33 j34 j35 j36 j37 j38 j39 j40 j41 j42 j43 j44 j45 j46 j47 j48 j49 j50 j51 j52 j53 j54 j55 j56 j57 j58 j59 j60 j61 j62 j63 j64 j65 j66 j67 j68 j69 j70 j71 j72 j73 j74 j75 j76 j77 j78 j79 j80 j81 j82 j83 j84 j85 j86 j87 j88 j89 j90 j91 j92 j93 j94 W', Mild.Bks w0.heap.size w0 [(A, .cells (two8 x y) 24), (Pb, .cells (coc p) 23)] W' → Q0 .normal { tmps := #[j0, .string s, j2, pt A 0, j4, j5, j6, j7, pt Pb 0, j9, j10, j11, j12, j13, j14, j15, j16, j17, j18, j19, j20, j21, j22, j23, j24, j25, j26, j27, j28, j29, j30, j31, j32, j33, j34, j35, j36, j37, j38, j39, j40, j41, j42, j43, j44, j45, j46, j47, j48, j49, j50, j51, j52, j53, j54, j55, j56, j57, j58, j59, j60, j61, j62, j63, j64, j65, j66, j67, j68, j69, j70, j71, j72, j73, j74, j75, j76, j77, j78, j79, j80, j81, j82, j83, j84, j85, j86, j87, j88, j89, j90, j91, j92, j93, j94, .bool false, j96, j97, j98, j99, j100, j101, j102, j103, j104, j105, j106, j107, j108, j109, j110, j111, j112, j113, j114, j115, j116, j117, j118, j119, j120, j121, j122, j123, j124, j125, j126, j127, j128, j129, j130, j131, j132, j133, j134, j135, j136, j137, j138, j139, j140, j141, j142, j143, j144, j145, j146, j147, j148, j149, j150, j151, j152, j153, j154, j155, j156, j157, j158, j159, j160, j161], defers := [] } W') :
    (navC [1, 1, 1, 1, 1, 0, 0] (Tryz.f3.body.getD .skip)).wp Tryz.prog Q0 { tmps := #[j0, .string s, j2, pt A 0, j4, j5, j6, j7, pt Pb 0, j9, j10, j11, j12, j13, j14, j15, j16, j17, j18, j19, j20, j21, j22, j23, j24, j25, j26, j27, j28, j29, j30, j31, j32, j33, j34, j35, j36, j37, j38, j39, j40, j41, j42, j43, j44, j45, j46, j47, j48, j49, j50, j51, j52, j53, j54, j55, j56, j57, j58, j59, j60, j61, j62, j63, j64, j65, j66, j67, j68, j69, j70, j71, j72, j73, j74, j75, j76, j77, j78, j79, j80, j81, j82, j83, j84, j85, j86, j87, j88, j89, j90, j91, j92, j93, j94, j95, j96, j97, j98, j99, j100, j101, j102, j103, j104, j105, j106, j107, j108, j109, j110, j111, j112, j113, j114, j115, j116, j117, j118, j119, j120, j121, j122, j123, j124, j125, j126, j127, j128, j129, j130, j131, j132, j133, j134, j135, j136, j137, j138, j139, j140, j141, j142, j143, j144, j145, j146, j147, j148, j149, j150, j151, j152, j153, j154, j155, j156, j157, j158, j159, j160, j161], defers := [] } W := by
  conv => arg 2; whnf
  have H0 := Lib.hid h0; clear h0
  have HT := Lib.hid ht0; clear ht0
  have HP := Lib.hid (And.intro hp (plain_rng hp)); clear hp
  obtain ⟨C, E, hce⟩ : ∃ C E, parseC s = C ∧ parseE s = E := ⟨_, _, rfl, rfl⟩
  have HCE := Lib.hid hce; clear hce
  have hs1 : s.size < 4294967281 := by omega
  have hs2 : s.size ≤ 100000 := by omega
  have HSS := Lib.hid (And.intro hs1 hs2); clear hs1 hs2 hs
  obtain ⟨SM, hsm⟩ : ∃ SM, sumM [x, y, p] = SM := ⟨_, rfl⟩
  have HSM := Lib.hid hsm; clear hsm
  obtain ⟨ax, hax⟩ : ∃ z, addM x y = z := ⟨_, rfl⟩
  obtain ⟨sx, hsx⟩ : ∃ z, subM x y = z := ⟨_, rfl⟩
  obtain ⟨bx, hbx⟩ : ∃ z, atM x y = z := ⟨_, rfl⟩
  obtain ⟨tx, htx⟩ : ∃ z, textM p = z := ⟨_, rfl⟩
  have HV := Lib.hid (And.intro hax (And.intro hsx (And.intro hbx htx)))
  clear hax hsx hbx htx
  refine Tell.region_told 67 [⟨57, 85, Is3 x y p⟩, ⟨64, 92, Is3 x y p⟩] (Mild.Bks w0.heap.size w0 [(A, .cells (two8 x y) 24), (Pb, .cells (coc p) 23)]) (by kernel_rfl) [(57, 85), (64, 92)] rfl 162 (by kernel_rfl) rfl (by simp) Mild.Bks.closed ?hR hC ?H
  case hR =>
    simp only [List.forall_mem_cons, List.not_mem_nil, false_imp_iff, implies_true, and_true]
    refine ⟨?_, ?_⟩ <;> (rintro v a b W W' ⟨g, h1, h2⟩ hb; exact ⟨g, h1, by rw [hb.block g (Mild.lt_of_block h2)]; exact h2⟩)
  clear hC
  apply Exists.intro
  refine ⟨?HW, ?HA, ?HT⟩
  case HW =>
    intro vals W hW
    have hb := hW.blocks
    simp only [List.forall_mem_cons, List.not_mem_nil, false_imp_iff, implies_true, and_true] at hb
    have cA := Mild.cell_of_block hb.1
    have cP := Mild.cell_of_block hb.2
    have HTW := Lib.hid (HT.out.below hW.below)
    clear hb hW
    simp only [List.take_succ_cons, List.take_zero]
    apply Tell.walk_q rfl rfl
    go_wp2
    refine ⟨rfl, rfl, Below.refl _ _, ?_⟩
    apply Tell.walk_q rfl rfl
    go_wp2
    refine ⟨rfl, rfl, Below.refl _ _, ?_⟩
    apply Tell.walk_q rfl rfl
    go_wp2
    refine ⟨rfl, rfl, Below.refl _ _, ?_⟩
    apply Tell.walk_q rfl rfl
    go_wp2
    refine ⟨rfl, rfl, Below.refl _ _, ?_⟩
    apply Tell.walk_q rfl rfl
    go_wp2_with (go_at_call 7; refine (add_any x y _).mono ?_; rintro e w1 ⟨rfl, hb⟩; rw [HV.out.1])
    refine ⟨rfl, rfl, hb, ?_⟩
    apply Tell.walk_q rfl rfl
    go_wp2
    refine ⟨rfl, rfl, Below.refl _ _, ?_⟩
    apply Tell.walk_q rfl rfl
    go_wp2
    refine ⟨rfl, rfl, Below.refl _ _, ?_⟩
    apply Tell.walk_q rfl rfl
    go_wp2
    refine ⟨rfl, rfl, Below.refl _ _, ?_⟩
    apply Tell.walk_q rfl rfl
    go_wp2
    refine ⟨rfl, rfl, Below.refl _ _, ?_⟩
    apply Tell.walk_q rfl rfl
    go_wp2_with (go_at_call 8; refine (refadd_any x y _).mono ?_; rintro e w1 ⟨rfl, hb⟩; rw [HV.out.1])
    refine ⟨rfl, rfl, hb, ?_⟩
    apply Tell.walk_q rfl rfl
    go_wp2
    refine ⟨rfl, rfl, Below.refl _ _, ?_⟩
    apply Tell.walk_q rfl rfl
    go_wp2
    refine ⟨rfl, rfl, Below.refl _ _, ?_⟩
    apply Tell.walk_q rfl rfl
    go_wp2
    refine ⟨rfl, rfl, Below.refl _ _, ?_⟩
    apply Tell.walk_q rfl rfl
    go_wp2
    refine ⟨rfl, rfl, Below.refl _ _, ?_⟩
    apply Tell.walk_q rfl rfl
    go_wp2
    refine ⟨rfl, rfl, Below.refl _ _, ?_⟩
    apply Tell.walk_q rfl rfl
    go_wp2
    refine ⟨rfl, rfl, Below.refl _ _, ?_⟩
    apply Tell.walk_q rfl rfl
    go_wp2_with (go_at_call 9; refine (sub_any x y _).mono ?_; rintro e w1 ⟨rfl, hb⟩; rw [HV.out.2.1])
    refine ⟨rfl, rfl, hb, ?_⟩
    apply Tell.walk_q rfl rfl
    go_wp2
    refine ⟨rfl, rfl, Below.refl _ _, ?_⟩
    apply Tell.walk_q rfl rfl
    go_wp2
    refine ⟨rfl, rfl, Below.refl _ _, ?_⟩
    apply Tell.walk_q rfl rfl
    go_wp2
    refine ⟨rfl, rfl, Below.refl _ _, ?_⟩
    apply Tell.walk_q rfl rfl
    go_wp2
    refine ⟨rfl, rfl, Below.refl _ _, ?_⟩
    apply Tell.walk_q rfl rfl
    go_wp2_with (go_at_call 10; refine (refsub_any x y _).mono ?_; rintro e w1 ⟨rfl, hb⟩; rw [HV.out.2.1])
    refine ⟨rfl, rfl, hb, ?_⟩
    apply Tell.walk_q rfl rfl
    go_wp2
    refine ⟨rfl, rfl, Below.refl _ _, ?_⟩
    apply Tell.walk_q rfl rfl
    go_wp2
    refine ⟨rfl, rfl, Below.refl _ _, ?_⟩
    apply Tell.walk_q rfl rfl
    go_wp2
    refine ⟨rfl, rfl, Below.refl _ _, ?_⟩
    apply Tell.walk_q rfl rfl
    go_wp2
    refine ⟨rfl, rfl, Below.refl _ _, ?_⟩
    apply Tell.walk_q rfl rfl
    go_wp2
    refine ⟨rfl, rfl, Below.refl _ _, ?_⟩
    apply Tell.walk_q rfl rfl
    go_wp2
    refine ⟨rfl, rfl, Below.refl _ _, ?_⟩
    apply Tell.walk_q rfl rfl
    go_wp2
    refine ⟨rfl, rfl, Below.refl _ _, ?_⟩
    apply Tell.walk_q rfl rfl
    go_wp2_with (go_at_call 11; refine (atmost_any x y _).mono ?_; rintro e w1 ⟨rfl, hb⟩; rw [HV.out.2.2.1])
    refine ⟨rfl, rfl, hb, ?_⟩
    apply Tell.walk_q rfl rfl
    go_wp2
    refine ⟨rfl, rfl, Below.refl _ _, ?_⟩
    apply Tell.walk_q rfl rfl
    go_wp2
    refine ⟨rfl, rfl, Below.refl _ _, ?_⟩
    apply Tell.walk_q rfl rfl
    go_wp2
    refine ⟨rfl, rfl, Below.refl _ _, ?_⟩
    apply Tell.walk_q rfl rfl
    go_wp2
    refine ⟨rfl, rfl, Below.refl _ _, ?_⟩
    apply Tell.walk_q rfl rfl
    go_wp2_with (go_at_call 12; refine (refat_any x y _).mono ?_; rintro e w1 ⟨rfl, hb⟩; rw [HV.out.2.2.1])
    refine ⟨rfl, rfl, hb, ?_⟩
    apply Tell.walk_q rfl rfl
    go_wp2
    refine ⟨rfl, rfl, Below.refl _ _, ?_⟩
    apply Tell.walk_q rfl rfl
    go_wp2
    refine ⟨rfl, rfl, Below.refl _ _, ?_⟩
    apply Tell.walk_q rfl rfl
    go_wp2
    refine ⟨rfl, rfl, Below.refl _ _, ?_⟩
    apply Tell.walk_q rfl rfl
    go_wp2
    refine ⟨rfl, rfl, Below.refl _ _, ?_⟩
    apply Tell.walk_q rfl rfl
    go_wp2_with (go_at_call 13; refine (text_any p _ HTW.out HP.out.2).mono ?_; rintro e w1 ⟨rfl, hb⟩; rw [HV.out.2.2.2])
    refine ⟨rfl, rfl, hb, ?_⟩
    apply Tell.walk_q rfl rfl
    go_wp2
    refine ⟨rfl, rfl, Below.refl _ _, ?_⟩
    apply Tell.walk_q rfl rfl
    go_wp2_with (go_at_call 14; refine (reftext_any p _ HP.out.1).mono ?_; rintro e w1 ⟨rfl, hb⟩; rw [HV.out.2.2.2])
    refine ⟨rfl, rfl, hb, ?_⟩
    apply Tell.walk_q rfl rfl
    go_wp2
    refine ⟨rfl, rfl, Below.refl _ _, ?_⟩
    apply Tell.walk_q rfl rfl
    go_wp2
    refine ⟨rfl, rfl, Below.refl _ _, ?_⟩
    apply Tell.walk_q rfl rfl
    go_wp2
    refine ⟨rfl, rfl, Below.refl _ _, ?_⟩
    apply Tell.walk_q rfl rfl
    go_wp2
    refine ⟨rfl, rfl, Below.refl _ _, ?_⟩
    apply Tell.walk_q rfl rfl
    go_wp2_with (go_at_call 15; refine (parsed_ce s HSS.out.1 C E HCE _ HTW.out).mono ?_; rintro e w1 ⟨rfl, hb⟩)
    refine ⟨rfl, rfl, hb, ?_⟩
    apply Tell.walk_q rfl rfl
    go_wp2
    refine ⟨rfl, rfl, Below.refl _ _, ?_⟩
    apply Tell.walk_q rfl rfl
    go_wp2_with (go_at_call 16; refine (parsein_ce s HSS.out.2 C E HCE _).mono ?_; rintro e w1 ⟨rfl, hb⟩)
    refine ⟨rfl, rfl, hb, ?_⟩
    apply Tell.walk_q rfl rfl
    go_wp2
    refine ⟨rfl, rfl, Below.refl _ _, ?_⟩
    apply Tell.walk_q rfl rfl
    go_wp2
    refine ⟨rfl, rfl, Below.refl _ _, ?_⟩
    apply Tell.walk_q rfl rfl
    go_wp2
    refine ⟨rfl, rfl, Below.refl _ _, ?_⟩
    apply Tell.walk_q rfl rfl
    go_wp2
    refine ⟨rfl, rfl, Below.refl _ _, ?_⟩
    apply Tell.walk_q rfl rfl
    go_wp2
    refine ⟨rfl, rfl, Below.refl _ _, ?_⟩
    apply Tell.walk_q rfl rfl
    go_wp2
    refine ⟨rfl, rfl, Below.refl _ _, ?_⟩
    apply Tell.walk_q rfl rfl
    go_wp2
    refine ⟨rfl, rfl, Below.refl _ _, ?_⟩
    apply Tell.walk_q rfl rfl
    go_wp2
    refine ⟨rfl, rfl, Below.refl _ _, ?_⟩
    refine Tell.walk_t ⟨57, 85, Is3 x y p⟩ (by simp) rfl (by simp) ?_ ?_
    · intro _
      go_wp2
      exact ⟨rfl, rfl, (Below.refl _ _).alloc (Nat.le_refl _) _, W.heap.size, rfl, Mild.alloc_at _ _⟩
    simp only [Act.put, List.setIfInBounds_toArray, List.set_cons_zero, List.set_cons_succ]
    refine Tell.walk_u rfl rfl ⟨cov SM, ?_, ?_⟩
    · intro hy
      obtain ⟨lo, hi, ho, _⟩ := hy ⟨57, 85, Is3 x y p⟩ (by simp) (by kernel_rfl)
      obtain ⟨b, hv, hbb⟩ : ∃ b, vals 57 = .slice (some ⟨b, 0, none⟩) 3 3 ∧ W.heap[b]? = some (.cells (tri x y p) 23) := ho
      rw [hv]
      have HBB := Lib.hid hbb
      clear hy hbb hv
      go_wp2_with (go_at_call 17; refine (sum3 HBB.out HSM.out).mono ?_; rintro e w1 ⟨rfl, hb⟩)
      refine ⟨rfl, rfl, hb, ?_⟩
      first | rfl | (rintro d ⟨⟩; rfl)
    simp only [Act.put, List.setIfInBounds_toArray, List.set_cons_zero, List.set_cons_succ]
    apply Tell.walk_q rfl rfl
    go_wp2
    refine ⟨rfl, rfl, Below.refl _ _, ?_⟩
    apply Tell.walk_q rfl rfl
    go_wp2
    refine ⟨rfl, rfl, Below.refl _ _, ?_⟩
    apply Tell.walk_q rfl rfl
    go_wp2
    refine ⟨rfl, rfl, Below.refl _ _, ?_⟩
    apply Tell.walk_q rfl rfl
    go_wp2
    refine ⟨rfl, rfl, Below.refl _ _, ?_⟩
    apply Tell.walk_q rfl rfl
    go_wp2
    refine ⟨rfl, rfl, Below.refl _ _, ?_⟩
    refine Tell.walk_t ⟨64, 92, Is3 x y p⟩ (by simp) rfl (by simp) ?_ ?_
    · intro _
      go_wp2
      exact ⟨rfl, rfl, (Below.refl _ _).alloc (Nat.le_refl _) _, W.heap.size, rfl, Mild.alloc_at _ _⟩
    simp only [Act.put, List.setIfInBounds_toArray, List.set_cons_zero, List.set_cons_succ]
    refine Tell.walk_u rfl rfl ⟨cov SM, ?_, ?_⟩
    · intro hy
      obtain ⟨lo, hi, ho, _⟩ := hy ⟨64, 92, Is3 x y p⟩ (by simp) (by kernel_rfl)
      obtain ⟨b, hv, hbb⟩ : ∃ b, vals 64 = .slice (some ⟨b, 0, none⟩) 3 3 ∧ W.heap[b]? = some (.cells (tri x y p) 23) := ho
      rw [hv]
      have HBB := Lib.hid hbb
      clear hy hbb hv
      go_wp2_with (go_at_call 18; refine (rsum3 HBB.out HSM.out).mono ?_; rintro e w1 ⟨rfl, hb⟩)
      refine ⟨rfl, rfl, hb, ?_⟩
      first | rfl | (rintro d ⟨⟩; rfl)
    simp only [Act.put, List.setIfInBounds_toArray, List.set_cons_zero, List.set_cons_succ]
    apply Tell.walk_q rfl rfl
    go_wp2
    refine ⟨rfl, rfl, Below.refl _ _, ?_⟩
    exact Tell.walk_end rfl
  case HA => exact fun _ => rfl
  case HT =>
    intro vals lo hi w2 hC2 _ _
    try simp only [List.drop_succ_cons, List.drop_zero]
    have HC2 := Lib.hid hC2; clear hC2
    go_wp2
    exact H0.out _ _ _ _ _ _ _ _ _ _ _ _ _ _ _ _ _ _ _ _ _ _ _ _ _ _ _ _ _ _ _ _ _ _ _ _ _ _ _ _ _ _ _ _ _ _ _ _ _ _ _ _ _ _ _ _ _ _ _ _ _ _ _ _ _ _ _ _ HC2.out
end Go.Proofs.YtajccjbigcdkbaaGreatDoor
