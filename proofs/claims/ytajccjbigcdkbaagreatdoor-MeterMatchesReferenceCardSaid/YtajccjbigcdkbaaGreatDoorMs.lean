/- A report: a round of the first loop. -/
import Derived.Test.YtajccjbigcdkbaaGreatDoorMr
-- USEBDN
set_option linter.unusedSimpArgs false
set_option linter.unusedVariables false
namespace Go.Proofs.YtajccjbigcdkbaaGreatDoor
open Go.ChangeShapes Go.WideShapes Go.ChangeAt Go.RowKit
theorem okN_in {x : Int} (h : okN x = true) : 0 ≤ x ∧ x ≤ 1099511627776 := by
  rcases okN_cases x with ⟨_, e⟩ | ⟨_, _, e⟩ | ⟨h1, h2, _⟩
  · rw [e] at h; cases h
  · rw [e] at h; cases h
  · exact ⟨h1, h2⟩
theorem plain_in {c : Co} (h : plainB c = true) : (0 ≤ c.a ∧ c.a ≤ 1099511627776) ∧ (0 ≤ c.b ∧ c.b ≤ 1099511627776) ∧ (0 ≤ c.c ∧ c.c ≤ 1099511627776) ∧ (0 ≤ c.d ∧ c.d ≤ 1099511627776) := by
  unfold plainB at h
  simp only [Bool.and_eq_true] at h
  exact ⟨okN_in h.1.1.1, okN_in h.1.1.2, okN_in h.1.2, okN_in h.2⟩
theorem plain_rng {c : Co} (h : plainB c = true) : Rng c := by
  obtain ⟨h1, h2, h3, h4⟩ := plain_in h
  exact ⟨⟨by omega, by omega⟩, ⟨by omega, by omega⟩, ⟨by omega, by omega⟩, ⟨by omega, by omega⟩⟩

set_option maxRecDepth 100000 in
set_option maxHeartbeats 2000000 in
theorem rep7 (w0 W : World) (ht0 : Tabs w0) (tv : Value) (rows : List (List ByteArray)) (vs : List Value) (hC : TC w0 tv rows vs W) (hrl : rows.length ≤ 2000) (c : Co)
    (an : Option Addr) (nn ncap k : Nat) (hk : k < nn) (hnn : nn ≤ 1000) (na : Nat) (hka : k < na) (hna : na ≤ 1000) (x : ByteArray) (hx : ∃ nb no, an = some ⟨nb, no, none⟩ ∧ nb < w0.heap.size ∧ w0.cell? ⟨nb, no + k, none⟩ = some (.string x))
    (lb lo lcap : Nat) (hlb : lb < w0.heap.size) (h4 : w0.cell? ⟨lb, lo + k * 4, none⟩ = some (.int .i64 c.a) ∧ w0.cell? ⟨lb, lo + k * 4 + 1, none⟩ = some (.int .i64 c.b) ∧ w0.cell? ⟨lb, lo + k * 4 + 2, none⟩ = some (.int .i64 c.c) ∧ w0.cell? ⟨lb, lo + k * 4 + 3, none⟩ = some (.int .i64 c.d))
    (j1 j2 j3 j4 j5 j6 j8 j9 j10 j11 j12 j13 j14 j15 j16 j17 j18 j19 j20 j21 j22 j23 j24 j25 j26 j27 j28 j29 j30 j31 j32 j36 j37 j38 j39 j40 j41 j42 j43 j44 j45 j46 j47 j48 j49 j50 j51 j52 j53 j54 j55 j56 j57 j58 j59 j60 j61 j62 j63 j64 j65 j66 j67 j68 j69 j70 j71 j72 j73 j74 j75 j76 j77 j78 j79 j80 j81 j82 j83 j84 j85 j86 j87 j88 j89 j90 j91 j92 j93 j94 j95 j96 j97 j98 j99 j100 j101 j102 j103 j104 j105 j106 j107 j108 : Value) (Q0 : Exit → Act → World → Prop)
    (h0 : (namedB x && plainB c) = true → ∀ j8 j9 j37 j38 j39 j40 j41 j42 j43 j44 j45 j46 j47 j48 j49 j50 j51 j52 j53 j54 j55 j56 j57 j58 j59 tv' vs' W', TC w0 tv' (rows ++ [rowM x c]) vs' W' → Q0 .normal { tmps := #[.slice an na ncap, j1, j2, j3, j4, j5, j6, tv', j8, j9, j10, j11, j12, j13, j14, j15, j16, j17, j18, j19, j20, j21, j22, j23, j24, j25, j26, j27, j28, j29, j30, j31, j32, .slice (some ⟨lb, lo, none⟩) nn lcap, .int .i64 nn, .int .i64 k, j36, j37, j38, j39, j40, j41, j42, j43, j44, j45, j46, j47, j48, j49, j50, j51, j52, j53, j54, j55, j56, j57, j58, j59, j60, j61, j62, j63, j64, j65, j66, j67, j68, j69, j70, j71, j72, j73, j74, j75, j76, j77, j78, j79, j80, j81, j82, j83, j84, j85, j86, j87, j88, j89, j90, j91, j92, j93, j94, j95, j96, j97, j98, j99, j100, j101, j102, j103, j104, j105, j106, j107, j108], defers := [] } W')
    (h1 : (namedB x && plainB c) = false → ∀ j8 j9 j37 j38 j39 j40 j41 j42 j43 j44 j45 j46 j47 j48 j49 j50 j51 j52 j53 j54 j55 j56 j57 j58 j59 W', Below w0.heap.size w0 W' → Q0 .ret { tmps := #[.slice an na ncap, j1, j2, j3, .string ⟨#[]⟩, .int .i64 1, j6, tv, j8, j9, j10, j11, j12, j13, j14, j15, j16, j17, j18, j19, j20, j21, j22, j23, j24, j25, j26, j27, j28, j29, j30, j31, j32, .slice (some ⟨lb, lo, none⟩) nn lcap, .int .i64 nn, .int .i64 k, j36, j37, j38, j39, j40, j41, j42, j43, j44, j45, j46, j47, j48, j49, j50, j51, j52, j53, j54, j55, j56, j57, j58, j59, j60, j61, j62, j63, j64, j65, j66, j67, j68, j69, j70, j71, j72, j73, j74, j75, j76, j77, j78, j79, j80, j81, j82, j83, j84, j85, j86, j87, j88, j89, j90, j91, j92, j93, j94, j95, j96, j97, j98, j99, j100, j101, j102, j103, j104, j105, j106, j107, j108], defers := [] } W') :
    (navC [1, 1, 1, 1, 0, 1, 1, 1, 1, 1, 0] (Tryz.f34.body.getD .skip)).wp Tryz.prog Q0 { tmps := #[.slice an na ncap, j1, j2, j3, j4, j5, j6, tv, j8, j9, j10, j11, j12, j13, j14, j15, j16, j17, j18, j19, j20, j21, j22, j23, j24, j25, j26, j27, j28, j29, j30, j31, j32, .slice (some ⟨lb, lo, none⟩) nn lcap, .int .i64 nn, .int .i64 k, j36, j37, j38, j39, j40, j41, j42, j43, j44, j45, j46, j47, j48, j49, j50, j51, j52, j53, j54, j55, j56, j57, j58, j59, j60, j61, j62, j63, j64, j65, j66, j67, j68, j69, j70, j71, j72, j73, j74, j75, j76, j77, j78, j79, j80, j81, j82, j83, j84, j85, j86, j87, j88, j89, j90, j91, j92, j93, j94, j95, j96, j97, j98, j99, j100, j101, j102, j103, j104, j105, j106, j107, j108], defers := [] } W := by
  conv => arg 2; whnf
  obtain ⟨nb, no, rfl, hnb, hx⟩ := hx
  obtain ⟨r1, r2, r3, r4⟩ := h4
  rw [← hC.below.cell (p := ⟨lb, _, none⟩) hlb] at r1 r2 r3 r4
  have HX0 := Lib.hid hx
  rw [← hC.below.cell (p := ⟨nb, _, none⟩) hnb] at hx
  have hB := hC.below
  have hbg := hC.big
  have hlb2 : lb < W.heap.size := by omega
  have hnb2 : nb < W.heap.size := by omega
  have H0 := Lib.hid h0; clear h0
  have H1 := Lib.hid h1; clear h1
  have b8 : (W.alloc (.cells #[.int .i64 c.a, .int .i64 c.b, .int .i64 c.c, .int .i64 c.d] 23)).heap[W.heap.size]? = some (.cells (coc c) 23) := Mild.alloc_at W _
  have B8 : Below W.heap.size W (W.alloc (.cells #[.int .i64 c.a, .int .i64 c.b, .int .i64 c.c, .int .i64 c.d] 23)) := (Below.refl _ _).alloc (Nat.le_refl _) _
  have C8 := Lib.hid (hC.closed B8)
  have HB8 := Lib.hid b8
  clear hC b8 B8
  go_upto_region 8 with (fail)
  generalize W.alloc (.cells #[.int .i64 c.a, .int .i64 c.b, .int .i64 c.c, .int .i64 c.d] 23) = W8 at *
  clear r1 r2 r3 r4 hx hB hlb2 hnb2
  have hx := HX0.out
  rw [← C8.out.below.cell (p := ⟨nb, _, none⟩) hnb] at hx
  have cA := Mild.cell_of_block HB8.out
  cases hnm : namedB x with
  | false =>
    have HN := Lib.hid hnm; clear hnm
    go_wp2_with (go_at_call 46; refine (named_any x _).mono ?_; rintro e w1 ⟨rfl, hb⟩; rw [HN.out])
    exact H1.out (by rw [HN.out]; rfl) _ _ _ _ _ _ _ _ _ _ _ _ _ _ _ _ _ _ _ _ _ _ _ _ _ _ (C8.out.closed hb).below
  | true =>
    have HN := Lib.hid hnm; clear hnm
    cases hpl : plainB c with
    | false =>
      have HP := Lib.hid hpl; clear hpl
      go_wp2_with (first | (go_at_call 46; refine (named_any x _).mono ?_; rintro e w1 ⟨rfl, hb⟩; rw [HN.out]; have HC1 := Lib.hid (C8.out.closed hb); have cA1 : ∀ o, w1.cell? ⟨W.heap.size, o, none⟩ = (coc c)[o]? := (fun o => by rw [hb.cell (p := ⟨W.heap.size, o, none⟩) (Mild.lt_of_block HB8.out)]; exact cA o); clear hb cA hx) | (go_at_call 45; refine (plain_any c _).mono ?_; rintro e w2 ⟨rfl, hb2⟩; rw [HP.out]))
      exact H1.out (by rw [HP.out, HN.out]; rfl) _ _ _ _ _ _ _ _ _ _ _ _ _ _ _ _ _ _ _ _ _ _ _ _ _ _ (HC1.out.closed hb2).below
    | true =>
      have HP := Lib.hid hpl; clear hpl
      have hr := plain_rng HP.out
      have HR := Lib.hid hr; clear hr
      go_upto_region 10 with (first | (go_at_call 46; refine (named_any x _).mono ?_; rintro e w1 ⟨rfl, hb⟩; rw [HN.out]; have HC1 := Lib.hid (C8.out.closed hb); have HA1 : Hid (w1.heap[W.heap.size]? = some (.cells (coc c) 23)) := Lib.hid (by rw [hb.block W.heap.size (Mild.lt_of_block HB8.out)]; exact HB8.out); have cA1 := Mild.cell_of_block HA1.out; clear hb cA hx) | (go_at_call 45; refine (plain_any c _).mono ?_; rintro e w2 ⟨rfl, hb2⟩; rw [HP.out]))
      refine rep10 w0 _ ht0 tv rows vs (HC1.out.closed hb2) hrl W.heap.size c (by rw [hb2.block W.heap.size (Mild.lt_of_block HA1.out)]; exact HA1.out) hbg HR.out nb no na ncap k hka hna x hnb HX0.out _ _ _ _ _ _ _ _ _ _ _ _ _ _ _ _ _ _ _ _ _ _ _ _ _ _ _ _ _ _ _ _ _ _ _ _ _ _ _ _ _ _ _ _ _ _ _ _ _ _ _ _ _ _ _ _ _ _ _ _ _ _ _ _ _ _ _ _ _ _ _ _ _ _ _ _ _ _ _ _ _ _ _ _ _ _ _ _ _ _ _ _ _ _ _ _ _ _ _ _ _ _ _ _ _ _ ?_
      intro j51 j52 j53 j54 j55 j56 j57 j58 j59 tv' vs' W' hC'
      go_wp2
      exact H0.out (by rw [HP.out, HN.out]; rfl) _ _ _ _ _ _ _ _ _ _ _ _ _ _ _ _ _ _ _ _ _ _ _ _ _ _ _ _ hC'
end Go.Proofs.YtajccjbigcdkbaaGreatDoor
