/- The reference's Report. -/
import Derived.Test.YtajccjbigcdkbaaGreatDoorZp
import Derived.Test.YtajccjbigcdkbaaGreatDoorZh
import Derived.Test.YtajccjbigcdkbaaGreatDoorMy
-- USEBDN
set_option linter.unusedSimpArgs false
set_option linter.unusedVariables false
namespace Go.Proofs.YtajccjbigcdkbaaGreatDoor
open Go.ChangeShapes Go.WideShapes Go.ChangeAt Go.RowKit
def wdI (z : Int) : ByteArray := wd z.toNat
theorem word_z (z : Int) (h0 : 0 ≤ z) (h4 : z < 4) (w : World) : Calls Tryz.prog 29 #[.int .i64 z] w fun e w' => e = .returned (.string (wdI z)) ∧ Below w.heap.size w w' := by
  have := word_any z.toNat (by omega) w
  rwa [Int.toNat_of_nonneg h0] at this
abbrev toldV (names : List ByteArray) (cs : List Co) : Value := .agg #[.string (reportT names cs), .int .i64 (reportE names cs)]
theorem ret_told {names : List ByteArray} {cs : List Co} {s : ByteArray} {e : Int} (h1 : reportT names cs = s) (h2 : reportE names cs = e) : Ending.returned (.agg #[.string s, .int .i64 e]) = .returned (toldV names cs) := by unfold toldV; rw [h1, h2]
set_option maxRecDepth 100000 in
set_option maxHeartbeats 4000000 in
theorem refrep_short (names : List ByteArray) (cs : List Co) (an bn : Option Addr) (ncap bcap : Nat) (w : World) (h : names.length ≠ cs.length ∨ 1000 < cs.length) :
    Calls Tryz.prog 20 #[.slice an names.length ncap, .slice bn cs.length bcap] w fun e w' => e = .returned (toldV names cs) ∧ Below w.heap.size w w' := by
  have HN := Lib.hid (rep_bad1 h)
  by_cases h1 : names.length = cs.length
  · have hc : 1000 < cs.length := by omega
    have h1i : ((names.length : Int) != (cs.length : Int)) = false := by rw [h1]; simp
    have hci : (1000 : Int) < cs.length := by omega
    go_enter Tryz.func20, Tryz.ntmps20
    go_wp2
    exact bodyPost_ret (v := .agg #[.string ⟨#[]⟩, .int .i64 1]) (by simp [results, Tryz.results20, go_sem, *]) rfl ⟨ret_told HN.out.1 HN.out.2, by (repeat' (first | (with_reducible exact Below.refl _ _) | (with_reducible assumption) | (with_reducible refine Below.alloc ?_ ?_ _) | (with_reducible refine Below.drew ?_) | (with_reducible refine bdn ?_ _) | (with_reducible refine Below.setCell ?_ ?_ _) | go_size))⟩
  · have h1i : ((names.length : Int) != (cs.length : Int)) = true := by simp; omega
    go_enter Tryz.func20, Tryz.ntmps20
    go_wp2
    exact bodyPost_ret (v := .agg #[.string ⟨#[]⟩, .int .i64 1]) (by simp [results, Tryz.results20, go_sem, *]) rfl ⟨ret_told HN.out.1 HN.out.2, by (repeat' (first | (with_reducible exact Below.refl _ _) | (with_reducible assumption) | (with_reducible refine Below.alloc ?_ ?_ _) | (with_reducible refine Below.drew ?_) | (with_reducible refine bdn ?_ _) | (with_reducible refine Below.setCell ?_ ?_ _) | go_size))⟩
/-- What is written of the first rows. -/
def outB (ns : List Int) (rows : List (List ByteArray)) (k : Nat) : ByteArray := ⟨((rows.take k).flatMap (lineL 0 ns)).toArray⟩
theorem out_next {ns : List Int} {rows : List (List ByteArray)} {k : Nat} {r : List ByteArray} (h : rows[k]? = some r) : outB ns rows (k + 1) = outB ns rows k ++ lineM ns r := by
  refine bytes_inj ?_
  simp [outB, lineM, ByteArray.data_append, List.take_add_one, h]
theorem out_size {ns : List Int} {rows : List (List ByteArray)} (hn : ns.length = 5) (h5 : ∀ r ∈ rows, r.length = 5) (hf : ∀ r ∈ rows, Fits ns r) (hl : rows.length ≤ 1400) (k : Nat) : (outB ns rows k).size ≤ 9000000 := by
  have key : ∀ rs : List (List ByteArray), (∀ r ∈ rs, r.length = 5 ∧ Fits ns r) → (rs.flatMap (lineL 0 ns)).length ≤ rs.length * 6000 := by
    intro rs
    induction rs with
    | nil => intro _; simp
    | cons r rs ih =>
      intro h
      have h1 := ih fun x hx => h x (List.mem_cons_of_mem _ hx)
      have h2 := h r (List.mem_cons_self ..)
      have h3 := line_len ns r hn h2.1 h2.2
      rw [List.flatMap_cons, List.length_append, List.length_cons]
      omega
  have h1 := key (rows.take k) fun r hr => ⟨h5 r (List.mem_of_mem_take hr), hf r (List.mem_of_mem_take hr)⟩
  have h2 : (rows.take k).length ≤ 1400 := by rw [List.length_take]; omega
  show ((rows.take k).flatMap (lineL 0 ns)).toArray.size ≤ _
  rw [List.size_toArray]; omega

set_option maxRecDepth 100000 in
set_option maxHeartbeats 8000000 in
theorem refrep_long (names : List ByteArray) (cs : List Co) (an : Option Addr) (ncap lb lo lcap : Nat) (w : World) (hxz : ∀ x ∈ names, x.size ≤ 9223372036854775807) (heq : names.length = cs.length) (hle : cs.length ≤ 1000) (hN : ∀ (j : Nat) x, names[j]? = some x → ∃ nb no, an = some ⟨nb, no, none⟩ ∧ nb < w.heap.size ∧ w.cell? ⟨nb, no + j, none⟩ = some (.string x)) (hlb : lb < w.heap.size) (hrow : Row4 w lb lo cs) :
    Calls Tryz.prog 20 #[.slice an names.length ncap, .slice (some ⟨lb, lo, none⟩) cs.length lcap] w fun e w' => e = .returned (toldV names cs) ∧ Below w.heap.size w w' := by
  have htt : ((names.length : Int) != (cs.length : Int)) = false := by rw [heq]; simp
  have hti : ¬ (1000 : Int) < cs.length := by omega
  have hnb : ¬ (names.length ≠ cs.length ∨ 1000 < cs.length) := fun h => by rcases h with h | h; exact h heq; omega
  have HNB := Lib.hid hnb; clear hnb
  have HE := Lib.hid heq; clear heq
  have HNN := Lib.hid hN; clear hN
  have HROW := Lib.hid hrow; clear hrow
  have HXZ := Lib.hid hxz; clear hxz
  have HQ := Lib.hid htt; clear htt
  go_enter Tryz.func20, Tryz.ntmps20
  have htt := HQ.out
  go_upto_region 3 with (fail)
  clear htt
  obtain ⟨w0, hw0⟩ : ∃ w0, w.alloc ztold = w0 := ⟨_, rfl⟩
  rw [hw0]
  have hsz0 : w0.heap.size = w.heap.size + 1 := by rw [← hw0]; exact World.size_alloc _ _
  have hbw : Below w.heap.size w w0 := by rw [← hw0]; exact (Below.refl _ _).alloc (Nat.le_refl _) _
  have HW0 := Lib.hid hw0.symm; clear hw0
  have HBW := Lib.hid (And.intro hbw hsz0); clear hbw hsz0
  have HB := Lib.hid (Below.refl w0.heap.size w0)
  go_upto_block 0 with (go_at_call 29; refine (word_z _ (by decide) (by decide) _).mono ?_; rintro e w1 ⟨rfl, hb1⟩; have HB := Lib.hid (HB.out.trans (hb1.mono HB.out.size)); clear hb1)
  have hC : TC w0 (.slice (some ⟨w1.heap.size + 1, 0, none⟩) 1 1) [headM] [.slice (some ⟨w1.heap.size, 0, none⟩) 5 5] ((w1.alloc (.cells #[.string ⟨#[110, 97, 109, 101]⟩, .string (wdI 0), .string (wdI 1), .string (wdI 2), .string (wdI 3)] 9)).alloc (.cells #[.slice (some ⟨w1.heap.size, 0, none⟩) 5 5] 25)) := by
    have hz := HB.out.size
    refine ⟨(HB.out.alloc hz _).alloc (by simp; omega) _, by simp; omega, ?_, fun k r hr => ?_⟩
    · have := own_one (w1.alloc (.cells #[.string ⟨#[110, 97, 109, 101]⟩, .string (wdI 0), .string (wdI 1), .string (wdI 2), .string (wdI 3)] 9)) #[.slice (some ⟨w1.heap.size, 0, none⟩) 5 5] 1 (by unfold maxLen; omega) rfl w0.heap.size 25 (by simp; omega)
      rw [World.size_alloc] at this; exact this
    · match k, hr with
      | 0, hr => cases hr; exact ⟨rfl, _, rfl, (own_one w1 #[.string ⟨#[110, 97, 109, 101]⟩, .string (wdI 0), .string (wdI 1), .string (wdI 2), .string (wdI 3)] 5 (by unfold maxLen; omega) rfl w0.heap.size 9 hz).alloc _⟩
  have HC := Lib.hid hC; clear hC
  generalize (w1.alloc (.cells #[.string ⟨#[110, 97, 109, 101]⟩, .string (wdI 0), .string (wdI 1), .string (wdI 2), .string (wdI 3)] 9)).alloc (.cells #[.slice (some ⟨w1.heap.size, 0, none⟩) 5 5] 25) = w3 at HC ⊢
  generalize Value.slice (some ⟨w1.heap.size + 1, 0, none⟩) 1 1 = tv at HC ⊢
  have hlb0 : lb < w0.heap.size := by have := HBW.out.2; omega
  have hrow0 : Row4 w0 lb lo cs := fun j h => by
    obtain ⟨r1, r2, r3, r4⟩ := HROW.out j h
    exact ⟨(HBW.out.1.cell (p := ⟨lb, _, none⟩) hlb).trans r1, (HBW.out.1.cell (p := ⟨lb, _, none⟩) hlb).trans r2, (HBW.out.1.cell (p := ⟨lb, _, none⟩) hlb).trans r3, (HBW.out.1.cell (p := ⟨lb, _, none⟩) hlb).trans r4⟩
  have HROW0 := Lib.hid hrow0; clear hrow0
  go_wp2
  go_loopw [5, 6] (fun tv i wr => ∃ (k : Nat) (vs : List Value), k ≤ cs.length ∧ i = .int .i64 k ∧ Hid (TC w0 tv (headM :: (bodyM names cs).take k) vs wr) ∧ Hid (∀ (j : Nat) x c, j < k → names[j]? = some x → cs[j]? = some c → okM1 x c = true)) (fun _ i _ => cs.length - (intOf i).toNat)
  case atStart => exact ⟨0, _, Nat.zero_le _, rfl, HC, Lib.hid (fun j x c h => by omega)⟩
  case round =>
    obtain ⟨k, vs, hk, rfl, HTC, HOK⟩ := hrel
    by_cases hlt : k < cs.length
    · have hq : (k : Int) < cs.length := by omega
      have hltn : k < names.length := by rw [HE.out]; exact hlt
      have hx : names[k]? = some (names[k]'hltn) := List.getElem?_eq_getElem hltn
      have hc : cs[k]? = some cs[k] := List.getElem?_eq_getElem hlt
      have h4 := HROW0.out k hlt
      have HX := Lib.hid hx
      have HCC := Lib.hid hc
      obtain ⟨nb, no, hxx⟩ := HNN.out k _ hx
      have hxs := HXZ.out _ (List.getElem_mem hltn)
      have HXX := Lib.hid hxx
      have H4 := Lib.hid h4
      clear hx hc hxx h4
      generalize names[k]'hltn = x at HX HXX hxs
      generalize cs[k] = c at HCC H4
      go_upto_block 1 with (fail)
      refine rin7 w w0 _ w.heap.size rfl HW0.out _ (headM :: (bodyM names cs).take k) vs HTC.out (by simp; omega) c an names.length ncap cs.length lcap k hltn hlt x hxs ⟨nb, no, HXX.out.1, by have := HXX.out.2.1; have := HBW.out.2; omega, (HBW.out.1.cell (p := ⟨nb, _, none⟩) HXX.out.2.1).trans HXX.out.2.2⟩ lb lo hlb0 H4.out _ _ _ _ _ _ _ _ _ _ _ _ _ _ _ _ _ _ _ _ _ _ _ _ _ _ _ _ _ _ _ _ _ _ _ _ _ _ _ _ _ _ _ _ _ _ _ _ _ _ _ _ _ _ _ _ _ _ _ _ _ _ _ _ _ _ _ _ _ _ _ _ _ _ _ _ _ _ _ _ _ _ _ _ _ _ _ _ _ _ _ _ _ _ _ _ _ _ _ _ _ _ _ _ _ _ _ _ _ _ _ _ _ _ _ _ _ _ _ _ _ _ _ _ _ _ _ _ _ _ _ _ _ _ _ _ _ _ _ _ _ _ _ _ _ _ _ _ _ _ _ _ _ _ _ _ _ _ _ _ _ _ _ ?_ ?_
      · intro hgood j36 j37 j38 j39 j40 j41 j42 j43 j44 j45 j46 j47 j48 j49 j51 j52 j53 j54 j55 j56 j57 j58 j59 j60 j61 j62 tv' vs' W' hC'
        have HC2 := Lib.hid hC'; clear hC'
        have HG := Lib.hid hgood; clear hgood
        go_wp2
        go_roundw
        case rel =>
          refine ⟨k + 1, vs', by omega, by go_num, Lib.hid (by rw [← body_take HX.out HCC.out]; exact HC2.out), Lib.hid (fun j y d hj hy hd => ?_)⟩
          by_cases hjk : j = k
          · subst hjk
            have e1 := HX.out.symm.trans hy
            have e2 := HCC.out.symm.trans hd
            cases e1; cases e2
            exact HG.out
          · exact HOK.out j y d (by omega) hy hd
        case measure => simp [intOf] <;> omega
      · intro hbad j36 j37 j38 j39 j40 j41 j42 j43 j44 j45 j46 j47 j48 j49 j50 W' hB hRb
        have HN := Lib.hid (rep_bad2 HNB.out (ok_not HX.out HCC.out hbad))
        have cR := Mild.cell_of_block hRb
        go_wp2
        exact bodyPost_ret (v := .agg #[.string ⟨#[]⟩, .int .i64 1]) (by simp [results, Tryz.results20, go_sem, *]) rfl ⟨ret_told HN.out.1 HN.out.2, hB⟩
    · obtain rfl : k = cs.length := by omega
      have hq : ¬ (cs.length : Int) < cs.length := by omega
      have hall : allOk names cs = true := ok_all fun j x c hx hc => HOK.out j x c (List.getElem?_eq_some_iff.1 hc).1 hx hc
      have HALL := Lib.hid hall
      have htk : (bodyM names cs).take cs.length = bodyM names cs := List.take_of_length_le (by unfold bodyM; rw [List.length_zipWith]; omega)
      have hTC := HTC.out
      rw [htk] at hTC
      have HT2 := Lib.hid hTC
      have hblen : (bodyM names cs).length = cs.length := by unfold bodyM; rw [List.length_zipWith, HE.out]; omega
      have HBL := Lib.hid hblen
      clear hall htk hTC HTC HOK hblen
      have hsumc : ∀ W1, Below w0.heap.size w0 W1 → Calls Tryz.prog 18 #[.slice (some ⟨lb, lo, none⟩) cs.length lcap] W1 fun e w' => e = .returned (cov (sumM cs)) ∧ Below W1.heap.size W1 w' := fun W1 hb =>
        refsum_any (some ⟨lb, lo, none⟩) cs.length lcap cs rfl (by omega) W1 (fun _ => ⟨lb, lo, rfl, by have := hb.size; omega, fun j h => by
          obtain ⟨r1, r2, r3, r4⟩ := HROW0.out j h
          exact ⟨(hb.cell (p := ⟨lb, _, none⟩) hlb0).trans r1, (hb.cell (p := ⟨lb, _, none⟩) hlb0).trans r2, (hb.cell (p := ⟨lb, _, none⟩) hlb0).trans r3, (hb.cell (p := ⟨lb, _, none⟩) hlb0).trans r4⟩⟩)
      have HSUM := Lib.hid hsumc; clear hsumc
      obtain ⟨sm, hsm⟩ : ∃ sm, sumM cs = sm := ⟨_, rfl⟩
      rw [hsm] at HSUM
      have HS := Lib.hid hsm; clear hsm
      have hRB : ∀ W1, Below w0.heap.size w0 W1 → W1.heap[w.heap.size]? = some ztold ∧ Below w.heap.size w W1 := fun W1 hb => by
        refine ⟨?_, HBW.out.1.trans (hb.mono HBW.out.1.size)⟩
        rw [hb.block _ (by have := HBW.out.2; omega), HW0.out]
        exact Mild.alloc_at _ _
      have HRB := Lib.hid hRB; clear hRB
      cases hpl : plainB sm with
      | false =>
        have HP := Lib.hid hpl; clear hpl
        have HN := Lib.hid (rep_bad3 HNB.out HALL.out (by rw [HS.out]; exact HP.out))
        go_wp2_with (first | (go_at_call 18; refine (HSUM.out _ HT2.out.below).mono ?_; rintro e w4 ⟨rfl, hb4⟩; have H4 := Lib.hid (HT2.out.closed hb4); clear hb4) | (go_at_call 33; refine (refplain_any sm _).mono ?_; rintro e w5 ⟨rfl, hb5⟩; rw [HP.out]; have H5 := Lib.hid (HRB.out w5 (H4.out.closed hb5).below); have fR := Mild.free_of_block H5.out.1; have cR := Mild.cell_of_block H5.out.1; clear hb5))
        exact bodyPost_ret (v := .agg #[.string ⟨#[]⟩, .int .i64 2]) (by simp [results, Tryz.results20, go_sem, *]) rfl ⟨ret_told HN.out.1 HN.out.2, (H5.out.2.setCell (Nat.le_refl _) _).setCell (Nat.le_refl _) _⟩
      | true =>
        have HP := Lib.hid hpl; clear hpl
        have HN := Lib.hid (rep_good HNB.out HALL.out (by rw [HS.out]; exact HP.out))
        go_upto_region 12 with (first | (go_at_call 18; refine (HSUM.out _ HT2.out.below).mono ?_; rintro e w4 ⟨rfl, hb4⟩; have H4 := Lib.hid (HT2.out.closed hb4); clear hb4) | (go_at_call 33; refine (refplain_any sm _).mono ?_; rintro e w5 ⟨rfl, hb5⟩; rw [HP.out]; have H5 := Lib.hid (H4.out.closed hb5); clear hb5))
        obtain ⟨ti, hi9, hz0, hz1, hz2⟩ := info_parts info41
        go_wp2_with (first | (go_at_call 18; refine (HSUM.out _ H5.out.below).mono ?_; rintro e w6 ⟨rfl, hb6⟩; have H6 := Lib.hid (H5.out.closed hb6); clear hb6) | (go_at_call 36; refine (cells_any totalB sm _ HP.out).mono ?_; rintro e w7 ⟨v, rfl, hown, hb7⟩; have H7 := Lib.hid (H6.out.closed hb7); have hown2 := own_mono hown H6.out.big; obtain ⟨g7, cap7, rfl, q1, q2, q3, q4⟩ := own_open hown2; have HO7 := Lib.hid hown2; clear hown hown2 q4 hb7) | (at_builtin; refine wpList_append_own _ rfl _ _ 60 rfl w0.heap.size 25 ti (.slice none 0 0) 1 24 Tryz.underlying60 hi9 hz0 hz1 hz2 rfl (by decide) _ _ _ rfl (H7.out.tab.alloc _) ⟨w7.heap.size, 0, none⟩ 1 1 [.slice (some ⟨g7, 0, none⟩) 5 cap7] rfl rfl ?d1 ?d2 ?d3 ?d4 ?d5 ?_))
        case d1 =>
          intro j u hj
          match j, hj with
          | 0, hj => simp at hj; subst hj; exact Mild.cell_of_block (Mild.alloc_at w7 _) 0
        case d2 => intro y hy; simp at hy; subst hy; rfl
        case d3 => have := HBL.out; simp; unfold maxLen; omega
        case d4 => have := HBL.out; simp; omega
        case d5 => have := H7.out.big; simp; omega
        intro v' w8 hown' hgrow _
        have hC8 := (H7.out.closed ((Below.refl _ _).alloc (Nat.le_refl _) (.cells #[.slice (some ⟨g7, 0, none⟩) 5 cap7] 25))).more (row_len totalB sm) (HO7.out.alloc _) hown' hgrow
        obtain ⟨tb, tcap, hv', k1, k2, k3, k4⟩ := own_open hown'
        clear k4
        have hrows : (headM :: bodyM names cs) ++ [rowM totalB sm] = rowsM names cs := by unfold rowsM; rw [HS.out]
        have hlen : (headM :: bodyM names cs).length + 1 = (rowsM names cs).length := by rw [← hrows, List.length_append]; rfl
        have hl2 : (rowsM names cs).length ≤ 1400 := by rw [← hlen, List.length_cons, HBL.out]; omega
        have hlen2 : (bodyM names cs).length + 1 + 1 = (rowsM names cs).length := by rw [← hlen]; rfl
        rw [hlen2] at hv' k3
        rw [hrows, hv'] at hC8
        rw [hv']
        have H8 := Lib.hid hC8
        have HR := Lib.hid hrows
        clear hC8 hown' hgrow hv' hrows hlen hlen2 H7 HO7 q1 q2 q3
        obtain ⟨rows, hrr⟩ : ∃ rows, rowsM names cs = rows := ⟨_, rfl⟩
        rw [hrr] at H8 k3 hl2 ⊢
        have HRR := Lib.hid hrr; clear hrr
        have HSM := Lib.hid (rows_small (names := names) (cs := cs) HALL.out (by rw [HE.out]) (by rw [HS.out]; exact HP.out))
        rw [HRR.out] at HSM
        go_upto_block 2 with (fail)
        have h9 : WN w0 (.slice (some ⟨tb, 0, none⟩) rows.length tcap) rows (vs ++ [.slice (some ⟨g7, 0, none⟩) 5 cap7]) w8.heap.size (intsA (widM (rows.take 0))) (w8.alloc (.cells #[.int .i64 0, .int .i64 0, .int .i64 0, .int .i64 0, .int .i64 0] 3)) :=
          ⟨H8.out.closed ((Below.refl _ _).alloc (Nat.le_refl _) _), Mild.alloc_at _ _, H8.out.big⟩
        have H9 := Lib.hid h9
        clear h9
        generalize vs ++ [Value.slice (some ⟨g7, 0, none⟩) 5 cap7] = vs2 at *
        generalize w8.heap.size = U at *
        go_wp2
        go_loopw [8] (fun i wr => ∃ k : Nat, k ≤ rows.length ∧ i = .int .i64 k ∧ Hid (WN w0 (.slice (some ⟨tb, 0, none⟩) rows.length tcap) rows vs2 U (intsA (widM (rows.take k))) wr)) (fun i _ => rows.length - (intOf i).toNat)
        case atStart => exact ⟨0, Nat.zero_le _, rfl, H9⟩
        case round =>
          obtain ⟨k, hk, rfl, HWD⟩ := hrel
          by_cases hlt : k < rows.length
          · have hq2 : (k : Int) < rows.length := by omega
            have hr : rows[k]? = some rows[k] := List.getElem?_eq_getElem hlt
            have HRK := Lib.hid hr; clear hr
            generalize rows[k] = r at HRK
            go_upto_block 3 with (fail)
            refine rwid17 w0 _ tb rows.length tcap _ rows vs2 U (widM (rows.take k)) (wid_len HSM.out k) HWD.out rfl k hlt r HRK.out _ _ _ _ _ _ _ _ _ _ _ _ _ _ _ _ _ _ _ _ _ _ _ _ _ _ _ _ _ _ _ _ _ _ _ _ _ _ _ _ _ _ _ _ _ _ _ _ _ _ _ _ _ _ _ _ _ _ _ _ _ _ _ _ _ _ _ _ _ _ _ _ _ _ _ _ _ _ _ _ _ _ _ _ _ _ _ _ _ _ _ _ _ _ _ _ _ _ _ _ _ _ _ _ _ _ _ _ _ _ _ _ _ _ _ _ _ _ _ _ _ _ _ _ _ _ _ _ _ _ _ _ _ _ _ _ _ _ _ _ _ _ _ _ _ _ _ _ _ _ _ _ _ _ _ _ _ _ _ _ _ _ _ _ _ ?_
            intro j9 j81 j82 j83 j84 j85 j86 j87 j88 j89 j90 j91 j92 j93 j94 j95 j96 j97 j98 j99 j100 W' hC'
            have HC2 := Lib.hid hC'; clear hC'
            go_wp2
            go_roundw
            case rel => exact ⟨k + 1, by omega, by go_num, Lib.hid (by rw [wid_next HRK.out]; exact HC2.out)⟩
            case measure => simp [intOf] <;> omega
          · obtain rfl : k = rows.length := by omega
            have hq2 : ¬ (rows.length : Int) < rows.length := by omega
            rw [List.take_length] at HWD
            have hns5 : (widM rows).length = 5 := by have := wid_len HSM.out rows.length; rw [List.take_length] at this; exact this
            have hfit := (wid_all rows _ wide0 HSM.out).2.2
            have HFT := Lib.hid (show ∀ r ∈ rows, Fits (widM rows) r from hfit)
            have HOS := Lib.hid (out_size (rows := rows) hns5 (fun r hr => (HSM.out r hr).1) HFT.out hl2)
            have HN5 := Lib.hid hns5
            have HRS := Lib.hid (show reportT names cs = outB (widM rows) rows rows.length by rw [HN.out.1, ← HRR.out]; unfold reportS outB; rw [List.take_length])
            clear hfit hns5
            generalize widM rows = ns at *
            go_upto_block 6 with (fail)
            have h10 : OW w0 (.slice (some ⟨tb, 0, none⟩) rows.length tcap) rows vs2 U wr.heap.size (intsA ns) (outB ns rows 0) (wr.alloc ztold) :=
              ⟨HWD.out.tc.closed ((Below.refl _ _).alloc (Nat.le_refl _) _), Mild.alloc_lt _ HWD.out.wide, Mild.alloc_at _ _, HWD.out.hU, HWD.out.tc.big⟩
            have H10 := Lib.hid h10
            clear h10 HWD
            generalize wr.alloc ztold = w10 at *
            generalize wr.heap.size = O at *
            go_wp2
            go_loopw [11] (fun i wr => ∃ k : Nat, k ≤ rows.length ∧ i = .int .i64 k ∧ Hid (OW w0 (.slice (some ⟨tb, 0, none⟩) rows.length tcap) rows vs2 U O (intsA ns) (outB ns rows k) wr)) (fun i _ => rows.length - (intOf i).toNat)
            case atStart => exact ⟨0, Nat.zero_le _, rfl, H10⟩
            case round =>
              obtain ⟨k, hk, rfl, HOW⟩ := hrel
              by_cases hlt : k < rows.length
              · have hq3 : (k : Int) < rows.length := by omega
                have hr : rows[k]? = some rows[k] := List.getElem?_eq_getElem hlt
                have HRK := Lib.hid hr; clear hr
                generalize rows[k] = r at HRK
                go_upto_block 7 with (fail)
                refine rout7 w0 _ tb rows.length tcap _ rows vs2 U O ns HN5.out (outB ns rows k) HOW.out (HOS.out k) rfl k hlt r HRK.out (HFT.out r (List.mem_of_getElem? HRK.out)) _ _ _ _ _ _ _ _ _ _ _ _ _ _ _ _ _ _ _ _ _ _ _ _ _ _ _ _ _ _ _ _ _ _ _ _ _ _ _ _ _ _ _ _ _ _ _ _ _ _ _ _ _ _ _ _ _ _ _ _ _ _ _ _ _ _ _ _ _ _ _ _ _ _ _ _ _ _ _ _ _ _ _ _ _ _ _ _ _ _ _ _ _ _ _ _ _ _ _ _ _ _ _ _ _ _ _ _ _ _ _ _ _ _ _ _ _ _ _ _ _ _ _ _ _ _ _ _ _ _ _ _ _ _ _ _ _ _ _ _ _ _ _ _ _ _ _ _ _ _ _ _ _ _ _ _ _ _ _ _ _ _ _ _ ?_
                intro j12 j108 j109 j110 j111 j112 j113 j114 j115 j116 j117 j118 j119 j120 j121 j122 j123 j124 j125 j126 j127 j128 j129 j130 j131 j132 j133 j134 j135 j136 j137 j138 j139 j140 j141 j142 j143 j144 j145 j146 j147 j148 j149 j150 j151 j152 j153 j154 j155 j156 j157 j158 j159 j160 j161 j162 j163 j164 j165 W' hC'
                have HC2 := Lib.hid hC'; clear hC'
                go_wp2
                go_roundw
                case rel => exact ⟨k + 1, by omega, by go_num, Lib.hid (by rw [out_next HRK.out]; exact HC2.out)⟩
                case measure => simp [intOf] <;> omega
              · obtain rfl : k = rows.length := by omega
                have hq3 : ¬ (rows.length : Int) < rows.length := by omega
                have HRS2 := Lib.hid HRS.out
                clear HRS HOS
                generalize outB ns rows rows.length = S at *
                have H11 := Lib.hid (HRB.out wr HOW.out.tc.below)
                have fR := Mild.free_of_block H11.out.1
                have cR := Mild.cell_of_block H11.out.1
                have cO := Mild.cell_of_block HOW.out.out
                go_wp2
                exact bodyPost_ret (v := .agg #[.string S, .int .i64 0]) (by simp [results, Tryz.results20, go_sem, *]) rfl ⟨ret_told HRS2.out HN.out.2, (H11.out.2.setCell (Nat.le_refl _) _).setCell (Nat.le_refl _) _⟩
theorem refrep_any (names : List ByteArray) (cs : List Co) (an : Option Addr) (ncap lb lo lcap : Nat) (w : World) (hxz : ∀ x ∈ names, x.size ≤ 9223372036854775807) (hN : ∀ (j : Nat) x, names[j]? = some x → ∃ nb no, an = some ⟨nb, no, none⟩ ∧ nb < w.heap.size ∧ w.cell? ⟨nb, no + j, none⟩ = some (.string x)) (hlb : lb < w.heap.size) (hrow : Row4 w lb lo cs) :
    Calls Tryz.prog 20 #[.slice an names.length ncap, .slice (some ⟨lb, lo, none⟩) cs.length lcap] w fun e w' => e = .returned (toldV names cs) ∧ Below w.heap.size w w' := by
  by_cases h : names.length ≠ cs.length ∨ 1000 < cs.length
  · exact refrep_short names cs an _ ncap lcap w h
  · exact refrep_long names cs an ncap lb lo lcap w hxz (by omega) (by omega) hN hlb hrow
end Go.Proofs.YtajccjbigcdkbaaGreatDoor
