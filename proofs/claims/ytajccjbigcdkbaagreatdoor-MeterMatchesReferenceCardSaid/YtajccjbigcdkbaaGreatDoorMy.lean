/- A report: the walk. -/
import Derived.Test.YtajccjbigcdkbaaGreatDoorMx
-- USEBDN
set_option linter.unusedSimpArgs false
set_option linter.unusedVariables false
namespace Go.Proofs.YtajccjbigcdkbaaGreatDoor
open Go.ChangeShapes Go.WideShapes Go.ChangeAt Go.RowKit Go.Shelf
theorem make5 (w : World) : (Instr.makeSlice 63 (.int .i64 5) (.int .i64 5)).run Tryz.prog w = .ok (.slice (some ⟨w.heap.size, 0, none⟩) 5 5) (w.alloc (.cells #[.int .i64 0, .int .i64 0, .int .i64 0, .int .i64 0, .int .i64 0] 3)) := by kernel_rfl
theorem addr_add (g j : Nat) : (⟨g, 0, none⟩ : Addr).add j = ⟨g, j, none⟩ := by
  cases j with
  | zero => rfl
  | succ j => simp [Addr.add]
theorem rows_small {names : List ByteArray} {cs : List Co} (h : allOk names cs = true) (hl : names.length = cs.length) (hp : plainB (sumM cs) = true) : ∀ r ∈ rowsM names cs, Small r := by
  intro r hr
  unfold rowsM at hr
  rcases List.mem_append.1 hr with hr | hr
  · rcases List.mem_cons.1 hr with rfl | hr
    · exact head_small
    · unfold bodyM at hr
      obtain ⟨k, hk⟩ := List.mem_iff_getElem?.1 hr
      rw [List.getElem?_zipWith] at hk
      cases h1 : names[k]? with
      | none => rw [h1] at hk; cases hk
      | some x =>
        cases h2 : cs[k]? with
        | none => rw [h1, h2] at hk; cases hk
        | some c =>
          rw [h1, h2] at hk
          cases hk
          have := ok_at h h1 h2
          unfold okM1 at this
          simp only [Bool.and_eq_true] at this
          exact row_small (named_size this.1) (plain_rng this.2)
  · simp only [List.mem_singleton] at hr
    subst hr
    exact row_small (by decide) (plain_rng hp)
theorem wid_len {rows : List (List ByteArray)} (h : ∀ r ∈ rows, Small r) (k : Nat) : (widM (rows.take k)).length = 5 := (wid_all (rows.take k) _ wide0 fun r hr => h r (List.mem_of_mem_take hr)).1.1
theorem wid_next {rows : List (List ByteArray)} {k : Nat} {r : List ByteArray} (h : rows[k]? = some r) : widM (rows.take (k + 1)) = widR (widM (rows.take k)) r := by
  unfold widM
  rw [List.take_add_one, h, List.foldl_append]; rfl
set_option maxRecDepth 100000 in
set_option maxHeartbeats 1000000 in
theorem report_long (names : List ByteArray) (cs : List Co) (an : Option Addr) (ncap lb lo lcap : Nat) (w : World) (ht : Tabs w) (heq : names.length = cs.length) (hle : cs.length ≤ 1000) (hN : ∀ (j : Nat) x, names[j]? = some x → ∃ nb no, an = some ⟨nb, no, none⟩ ∧ nb < w.heap.size ∧ w.cell? ⟨nb, no + j, none⟩ = some (.string x)) (hlb : lb < w.heap.size) (hrow : Row4 w lb lo cs) :
    Calls Tryz.prog 34 #[.slice an names.length ncap, .slice (some ⟨lb, lo, none⟩) cs.length lcap] w fun e w' => e = .returned (.tuple #[.string (reportT names cs), .int .i64 (reportE names cs)]) ∧ Below w.heap.size w w' := by
  have htt : ((names.length : Int) != (cs.length : Int)) = false := by rw [heq]; simp
  have hnb : ¬ (names.length ≠ cs.length ∨ 1000 < cs.length) := fun h => by rcases h with h | h; exact h heq; omega
  have HNB := Lib.hid hnb; clear hnb
  have HE := Lib.hid heq; clear heq
  have HNN := Lib.hid hN; clear hN
  have HROW := Lib.hid hrow; clear hrow
  have HT := Lib.hid ht; clear ht
  refine (callsIn_wide (n := 3)).1 ?_
  refine callsIn_of_wp_marks Tryz.func34 rfl trivial ?_ rfl
  simp only [Tryz.ntmps34, List.size_toArray, List.length_cons, List.length_nil, Nat.reduceAdd, Nat.reduceSub, Array.replicate_succ, Array.replicate_zero, List.push_toArray, List.append_toArray, List.nil_append, List.cons_append]
  refine wpIn_wide.2 ?_
  go_upto_region 4 with (go_at_call 26; refine (words_any _).mono ?_; rintro e w1 ⟨rfl, hb1⟩)
  obtain ⟨ti, hi9, hz0, hz1, hz2⟩ := info_parts info9
  have hz := hb1.size
  have bW : (w1.alloc (.cells #[.string (wd 0), .string (wd 1), .string (wd 2), .string (wd 3)] 49)).heap[w1.heap.size]? = some (.cells #[.string (wd 0), .string (wd 1), .string (wd 2), .string (wd 3)] 49) := Mild.alloc_at _ _
  have hown1 : ((w1.alloc (.cells #[.string (wd 0), .string (wd 1), .string (wd 2), .string (wd 3)] 49)).alloc (.cells #[.string ⟨#[110, 97, 109, 101]⟩] 9)).ownsRow w.heap.size 9 1 (.slice (some ⟨w1.heap.size + 1, 0, none⟩) 1 1) 1 [.string ⟨#[110, 97, 109, 101]⟩] := by
    have := own_one (w1.alloc (.cells #[.string (wd 0), .string (wd 1), .string (wd 2), .string (wd 3)] 49)) #[.string ⟨#[110, 97, 109, 101]⟩] 1 (by unfold maxLen; omega) rfl w.heap.size 9 (by simp; omega)
    rw [World.size_alloc] at this; exact this
  have HO1 := Lib.hid hown1; clear hown1
  have HW := Lib.hid bW; clear bW
  go_wp2_with (at_builtin; go_loud (refine wpList_append_own _ rfl _ _ 25 rfl w.heap.size 9 ti (.string ⟨#[]⟩) 1 16 Tryz.underlying25 hi9 hz0 hz1 hz2 rfl (by decide) _ _ _ rfl HO1.out ⟨w1.heap.size, 0, none⟩ 4 4 [.string (wd 0), .string (wd 1), .string (wd 2), .string (wd 3)] rfl rfl ?c1 ?c2 ?c3 ?c4 ?c5 ?_))
  case c1 =>
    intro j y hj
    have hy : ((w1.alloc (.cells #[.string (wd 0), .string (wd 1), .string (wd 2), .string (wd 3)] 49)).alloc (.cells #[.string ⟨#[110, 97, 109, 101]⟩] 9)).cell? ⟨w1.heap.size, j, none⟩ = some y := by
      rw [Mild.cell_of_block (Mild.alloc_lt _ HW.out), List.getElem?_toArray]; exact hj
    rw [addr_add]; exact hy
  case c2 => intro y hy; simp at hy; rcases hy with rfl | rfl | rfl | rfl <;> rfl
  case c3 => unfold maxLen; omega
  case c4 => omega
  case c5 => simp; omega
  intro v' w2 hown' hgrow _
  have hB2 : Below w.heap.size w w2 := below_grown (by (repeat' (first | (with_reducible exact Below.refl _ _) | (with_reducible assumption) | (with_reducible refine Below.alloc ?_ ?_ _) | (with_reducible refine Below.drew ?_) | (with_reducible refine bdn ?_ _) | (with_reducible refine Below.setCell ?_ ?_ _) | go_size))) hgrow (by simp; omega) (fun k e => by cases e; show w.heap.size ≤ w1.heap.size + 1; omega)
  have hz2 : w.heap.size ≤ w2.heap.size := hB2.size
  obtain ⟨g, cap, rfl, hg1, hg2, hg3, hg4⟩ := own_open hown'
  have hC : TC w (.slice (some ⟨w2.heap.size, 0, none⟩) 1 1) [headM] [.slice (some ⟨g, 0, none⟩) 5 cap] (w2.alloc (.cells #[.slice (some ⟨g, 0, none⟩) 5 cap] 25)) :=
    ⟨hB2.alloc hz2 _, by simp; omega, own_one w2 _ 1 (by unfold maxLen; omega) rfl w.heap.size 25 hz2, fun k r hr => by
      match k, hr with
      | 0, hr => cases hr; exact ⟨rfl, _, rfl, hown'.alloc _⟩⟩
  have HC := Lib.hid hC
  clear hC hown' hgrow hB2 hg1 hg2 hg3 hg4 HO1 HW hz hb1
  go_wp2
  generalize w2.alloc (.cells #[.slice (some ⟨g, 0, none⟩) 5 cap] 25) = w3 at HC ⊢
  generalize Value.slice (some ⟨w2.heap.size, 0, none⟩) 1 1 = tv at HC ⊢
  clear hi9 hz0 hz1 hz2
  go_loopw [7, 35] (fun tv i wr => ∃ (k : Nat) (vs : List Value), k ≤ cs.length ∧ i = .int .i64 k ∧ Hid (TC w tv (headM :: (bodyM names cs).take k) vs wr) ∧ Hid (∀ (j : Nat) x c, j < k → names[j]? = some x → cs[j]? = some c → okM1 x c = true)) (fun _ i _ => cs.length - (intOf i).toNat)
  case atStart => exact ⟨0, _, Nat.zero_le _, rfl, HC, Lib.hid (fun j x c h => by omega)⟩
  case round =>
    obtain ⟨k, vs, hk, rfl, HTC, HOK⟩ := hrel
    by_cases hlt : k < cs.length
    · have hltn : k < names.length := by rw [HE.out]; exact hlt
      have hx : names[k]? = some (names[k]'hltn) := List.getElem?_eq_getElem hltn
      have hc : cs[k]? = some cs[k] := List.getElem?_eq_getElem hlt
      have h4 := HROW.out k hlt
      have HX := Lib.hid hx
      have HCC := Lib.hid hc
      have hxx := HNN.out k _ hx
      have HXX := Lib.hid hxx
      have H4 := Lib.hid h4
      clear hx hc hxx h4
      generalize names[k]'hltn = x at HX HXX
      generalize cs[k] = c at HCC H4
      go_upto_block 1 with (fail)
      refine rep7 w _ HT.out _ (headM :: (bodyM names cs).take k) vs HTC.out (by simp; omega) c an cs.length ncap k hlt hle names.length hltn (by rw [HE.out]; exact hle) x HXX.out lb lo lcap hlb H4.out _ _ _ _ _ _ _ _ _ _ _ _ _ _ _ _ _ _ _ _ _ _ _ _ _ _ _ _ _ _ _ _ _ _ _ _ _ _ _ _ _ _ _ _ _ _ _ _ _ _ _ _ _ _ _ _ _ _ _ _ _ _ _ _ _ _ _ _ _ _ _ _ _ _ _ _ _ _ _ _ _ _ _ _ _ _ _ _ _ _ _ _ _ _ _ _ _ _ _ _ _ _ _ _ _ ?_ ?_
      · intro hgood j8 j9 j37 j38 j39 j40 j41 j42 j43 j44 j45 j46 j47 j48 j49 j50 j51 j52 j53 j54 j55 j56 j57 j58 j59 tv' vs' W' hC'
        have HC2 := Lib.hid hC'; clear hC'
        have HG := Lib.hid hgood; clear hgood
        go_wp2
        go_roundw
        case rel =>
          refine ⟨k + 1, vs', by omega, by go_num, Lib.hid (by rw [← body_take HX.out HCC.out]; exact HC2.out), Lib.hid (fun j y d hj hy hd => ?_)⟩
          by_cases hjk : j = k
          · subst hjk
            have e1 := HX.out.symm.trans hy
            have e2 := HCC.out.symm.trans hd
            cases e1; cases e2
            exact HG.out
          · exact HOK.out j y d (by omega) hy hd
        case measure => simp [intOf]; omega
      · intro hbad j8 j9 j37 j38 j39 j40 j41 j42 j43 j44 j45 j46 j47 j48 j49 j50 j51 j52 j53 j54 j55 j56 j57 j58 j59 W' hB
        have HN := Lib.hid (rep_bad2 HNB.out (ok_not HX.out HCC.out hbad))
        go_wp2
        exact post_m (results45 rfl rfl) rfl ⟨ret_rep HN.out.1 HN.out.2, hB⟩
    · obtain rfl : k = cs.length := by omega
      have hall : allOk names cs = true := ok_all fun j x c hx hc => HOK.out j x c (List.getElem?_eq_some_iff.1 hc).1 hx hc
      have HALL := Lib.hid hall
      have htk : (bodyM names cs).take cs.length = bodyM names cs := List.take_of_length_le (by unfold bodyM; rw [List.length_zipWith]; omega)
      have hTC := HTC.out
      rw [htk] at hTC
      have HT2 := Lib.hid hTC
      have hrow2 : Row4 wr lb lo cs := fun j h => by
        obtain ⟨r1, r2, r3, r4⟩ := HROW.out j h
        exact ⟨(hTC.below.cell (p := ⟨lb, _, none⟩) hlb).trans r1, (hTC.below.cell (p := ⟨lb, _, none⟩) hlb).trans r2, (hTC.below.cell (p := ⟨lb, _, none⟩) hlb).trans r3, (hTC.below.cell (p := ⟨lb, _, none⟩) hlb).trans r4⟩
      have hlb2 : lb < wr.heap.size := by have := hTC.big; omega
      have hbg2 : w.heap.size ≤ wr.heap.size := hTC.big
      have HR2 := Lib.hid hrow2
      have hblen : (bodyM names cs).length = cs.length := by unfold bodyM; rw [List.length_zipWith, HE.out]; omega
      have HBL := Lib.hid hblen
      clear hall htk hTC hrow2 HTC HOK hblen
      go_upto_region 13 with (go_at_call 17; refine (sum_any lb lo lcap cs _ hlb2 (by omega) HR2.out).mono ?_; rintro e w4 ⟨rfl, hb4⟩)
      have hTC4 := HT2.out.closed hb4
      have b5 : (w4.alloc (.cells #[.int .i64 (sumM cs).a, .int .i64 (sumM cs).b, .int .i64 (sumM cs).c, .int .i64 (sumM cs).d] 23)).heap[w4.heap.size]? = some (.cells (coc (sumM cs)) 23) := Mild.alloc_at w4 _
      have B5 : Below w4.heap.size w4 (w4.alloc (.cells #[.int .i64 (sumM cs).a, .int .i64 (sumM cs).b, .int .i64 (sumM cs).c, .int .i64 (sumM cs).d] 23)) := (Below.refl _ _).alloc (Nat.le_refl _) _
      have H5 := Lib.hid (hTC4.closed B5)
      have HB5 := Lib.hid b5
      clear hTC4 b5 B5 hb4 hlb2
      generalize w4.alloc (.cells #[.int .i64 (sumM cs).a, .int .i64 (sumM cs).b, .int .i64 (sumM cs).c, .int .i64 (sumM cs).d] 23) = w5 at *
      generalize w4.heap.size = sb at *
      generalize hsum : sumM cs = sm at *
      have HS := Lib.hid hsum; clear hsum
      have cA := Mild.cell_of_block HB5.out
      cases hpl : plainB sm with
      | false =>
        have HP := Lib.hid hpl; clear hpl
        have HN := Lib.hid (rep_bad3 HNB.out HALL.out (by rw [HS.out]; exact HP.out))
        go_wp2_with (go_at_call 45; refine (plain_any sm _).mono ?_; rintro e w6 ⟨rfl, hb6⟩; rw [HP.out])
        exact post_m (results45 rfl rfl) rfl ⟨ret_rep HN.out.1 HN.out.2, (H5.out.closed hb6).below⟩
      | true =>
        have HP := Lib.hid hpl; clear hpl
        have HN := Lib.hid (rep_good HNB.out HALL.out (by rw [HS.out]; exact HP.out))
        have hrg := plain_rng HP.out
        have HRG := Lib.hid hrg; clear hrg
        go_upto_region 15 with (go_at_call 45; refine (plain_any sm _).mono ?_; rintro e w6 ⟨rfl, hb6⟩; rw [HP.out])
        have H6 := Lib.hid (H5.out.closed hb6)
        have HB6 : Hid (w6.heap[sb]? = some (.cells (coc sm) 23)) := Lib.hid (by rw [hb6.block sb (Mild.lt_of_block HB5.out)]; exact HB5.out)
        clear hb6 cA
        have cA := Mild.cell_of_block HB6.out
        have ht6 := HT.out.below H6.out.below
        have HT6 := Lib.hid ht6; clear ht6
        obtain ⟨ti, hi9, hz0, hz1, hz2⟩ := info_parts info41
        go_wp2_with (first | (go_at_call 47; refine (row_any totalB sm _ HT6.out HRG.out).mono ?_; rintro e w7 ⟨v, rfl, hown, hb7⟩; have H7 := Lib.hid (H6.out.closed hb7); have hown2 := own_mono hown H6.out.big; obtain ⟨g7, cap7, rfl, q1, q2, q3, q4⟩ := own_open hown2; have HO7 := Lib.hid hown2; clear hown hown2 q4 hb7) | (at_builtin; refine wpList_append_own _ rfl _ _ 60 rfl w.heap.size 25 ti (.slice none 0 0) 1 24 Tryz.underlying60 hi9 hz0 hz1 hz2 rfl (by decide) _ _ _ rfl (H7.out.tab.alloc _) ⟨w7.heap.size, 0, none⟩ 1 1 [.slice (some ⟨g7, 0, none⟩) 5 cap7] rfl rfl ?d1 ?d2 ?d3 ?d4 ?d5 ?_))
        case d1 =>
          intro j u hj
          match j, hj with
          | 0, hj => simp at hj; subst hj; exact Mild.cell_of_block (Mild.alloc_at w7 _) 0
        case d2 => intro y hy; simp at hy; subst hy; rfl
        case d3 => have := HBL.out; simp; unfold maxLen; omega
        case d4 => have := HBL.out; simp; omega
        case d5 => have := H7.out.big; simp; omega
        intro v' w8 hown' hgrow _
        have hC8 := (H7.out.closed ((Below.refl _ _).alloc (Nat.le_refl _) (.cells #[.slice (some ⟨g7, 0, none⟩) 5 cap7] 25))).more (row_len totalB sm) (HO7.out.alloc _) hown' hgrow
        obtain ⟨tb, tcap, hv', k1, k2, k3, k4⟩ := own_open hown'
        clear k4
        have hrows : (headM :: bodyM names cs) ++ [rowM totalB sm] = rowsM names cs := by unfold rowsM; rw [HS.out]
        have hlen : (headM :: bodyM names cs).length + 1 = (rowsM names cs).length := by rw [← hrows, List.length_append]; rfl
        have hl2 : (rowsM names cs).length ≤ 2000 := by rw [← hlen, List.length_cons, HBL.out]; omega
        have hl3 : 1 ≤ (rowsM names cs).length := by rw [← hlen]; omega
        have hlen2 : (bodyM names cs).length + 1 + 1 = (rowsM names cs).length := by rw [← hlen]; rfl
        rw [hlen2] at hv' k3
        rw [hrows, hv'] at hC8
        rw [hv']
        have hhead : (rowsM names cs)[0]? = some headM := by rw [← hrows]; rfl
        have H8 := Lib.hid hC8
        have HD := Lib.hid hhead
        have HR := Lib.hid hrows
        clear hC8 hown' hgrow hv' hrows hlen hlen2 hhead H7 HO7 q1 q2 q3
        obtain ⟨rows, hrr⟩ : ∃ rows, rowsM names cs = rows := ⟨_, rfl⟩
        rw [hrr] at H8 HD k3 hl2 hl3 ⊢
        have HRR := Lib.hid hrr; clear hrr
        have HSM := Lib.hid (rows_small (names := names) (cs := cs) HALL.out (by rw [HE.out]) (by rw [HS.out]; exact HP.out))
        rw [HRR.out] at HSM
        obtain ⟨g0, cap0, hv0, hc0, hg0, hg1⟩ := H8.out.slice HD.out
        have ch : w8.cell? ⟨tb, 0, none⟩ = some (.slice (some ⟨g0, 0, none⟩) 5 cap0) := H8.out.tab.cells (g := tb) rfl 0 _ hv0
        have hv0' := Lib.hid hv0; clear hv0 hc0
        have hmk := make5
        go_wp2
        clear hmk
        have h9 : WD w (.slice (some ⟨tb, 0, none⟩) rows.length tcap) rows (vs ++ [.slice (some ⟨g7, 0, none⟩) 5 cap7]) (w8.heap.size + 1) w8.heap.size (intsA (widM (rows.take 0))) ((w8.alloc (.cells #[.int .i64 0, .int .i64 0, .int .i64 0, .int .i64 0, .int .i64 0] 3)).alloc (.cells #[.slice (some ⟨w8.heap.size, 0, none⟩) 5 5] 63)) :=
          ⟨H8.out.closed (((Below.refl _ _).alloc (Nat.le_refl _) _).alloc (by simp) _), by have := Mild.alloc_at (w8.alloc (.cells #[.int .i64 0, .int .i64 0, .int .i64 0, .int .i64 0, .int .i64 0] 3)) (.cells #[.slice (some ⟨w8.heap.size, 0, none⟩) 5 5] 63); rw [World.size_alloc] at this; exact this, Mild.alloc_lt _ (Mild.alloc_at _ _), by have := H8.out.big; omega, H8.out.big⟩
        have H9 := Lib.hid h9
        have hbx := H8.out.big
        clear h9 ch
        go_loopw [78] (fun i wr => ∃ k : Nat, k ≤ rows.length ∧ i = .int .i64 k ∧ Hid (WD w (.slice (some ⟨tb, 0, none⟩) rows.length tcap) rows (vs ++ [.slice (some ⟨g7, 0, none⟩) 5 cap7]) (w8.heap.size + 1) w8.heap.size (intsA (widM (rows.take k))) wr)) (fun i _ => rows.length - (intOf i).toNat)
        case atStart => exact ⟨0, Nat.zero_le _, rfl, H9⟩
        case round =>
          obtain ⟨k, hk, rfl, HWD⟩ := hrel
          by_cases hlt : k < rows.length
          · have hr : rows[k]? = some rows[k] := List.getElem?_eq_getElem hlt
            have HRK := Lib.hid hr; clear hr
            generalize rows[k] = r at HRK
            go_upto_block 3 with (fail)
            refine wid19 w _ tb tcap rows _ (w8.heap.size + 1) w8.heap.size (widM (rows.take k)) (wid_len HSM.out k) HWD.out hl2 k3 k hlt r HRK.out _ _ _ _ _ _ _ _ _ _ _ _ _ _ _ _ _ _ _ _ _ _ _ _ _ _ _ _ _ _ _ _ _ _ _ _ _ _ _ _ _ _ _ _ _ _ _ _ _ _ _ _ _ _ _ _ _ _ _ _ _ _ _ _ _ _ _ _ _ _ _ _ _ _ _ _ _ _ _ _ _ _ _ _ _ _ _ _ _ _ _ _ _ _ _ _ _ _ _ _ _ _ _ _ _ _ ?_
            intro j13 j14 j15 j80 j81 j82 j83 j84 j85 j86 j87 j88 j89 j90 j91 j92 j93 j94 j95 j96 j97 j98 j99 W' hC'
            have HC2 := Lib.hid hC'; clear hC'
            go_wp2
            go_roundw
            case rel => exact ⟨k + 1, by omega, by go_num, Lib.hid (by rw [wid_next HRK.out]; exact HC2.out)⟩
            case measure => simp [intOf]; omega
          · obtain rfl : k = rows.length := by omega
            rw [List.take_length] at HWD
            go_upto_region 26 with (fail)
            rename_i K9 hK9
            refine rep26 w _ tb tcap rows _ (w8.heap.size + 1) w8.heap.size (widM rows) (by have := wid_len HSM.out rows.length; rw [List.take_length] at this; exact this) HWD.out hl2 (wid_all rows _ wide0 HSM.out).2.2 _ _ _ _ _ _ _ _ _ _ _ _ _ _ _ _ _ _ _ _ _ _ _ _ _ _ _ _ _ _ _ _ _ _ _ _ _ _ _ _ _ _ _ _ _ _ _ _ _ _ _ _ _ _ _ _ _ _ _ _ _ _ _ _ _ _ _ _ _ _ _ _ _ _ _ _ _ _ _ _ _ _ _ _ _ _ _ _ _ _ _ _ _ _ _ _ _ _ _ _ _ _ _ _ _ _ _ _ ?_ K9 hK9
            intro S hS j16 j17 j101 j102 j103 j104 j105 j106 j107 j108 D W' hD hDk hB
            have hST : reportT names cs = S := by rw [HN.out.1, hS, ← HRR.out]; rfl
            refine ⟨by simp, .inl ⟨_, _, rfl, run_takeDeferred hDk, ?_⟩⟩
            exact ⟨_, results45 rfl rfl, ret_rep hST HN.out.2, hB.trans (belowK_b (w := w) (Nat.le_refl _) W' D _ _ hD hDk rfl rfl)⟩
end Go.Proofs.YtajccjbigcdkbaaGreatDoor
