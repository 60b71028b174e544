/- A report: the loop over the lines. -/
import Derived.Test.YtajccjbigcdkbaaGreatDoorMu
-- USEBDN
set_option linter.unusedSimpArgs false
set_option linter.unusedVariables false
namespace Go.Proofs.YtajccjbigcdkbaaGreatDoor
open Go.ChangeShapes Go.WideShapes Go.ChangeAt Go.RowKit Go.Shelf
attribute [local go_sem] Oper.semAt_some
theorem mk_lines (ms : List Int) (xs : List ByteArray) : (lineM ms xs).data.toList = lineL 0 ms xs := by simp [lineM]

set_option maxRecDepth 100000 in
set_option maxHeartbeats 600000 in
theorem rep26 (w0 W : World) (tb tcap : Nat) (rows : List (List ByteArray)) (vs : List Value) (B U : Nat) (ms : List Int) (hms : ms.length = 5) (hC : WD w0 (.slice (some ⟨tb, 0, none⟩) rows.length tcap) rows vs B U (intsA ms) W) (hrl : rows.length ≤ 2000) (hf : ∀ r ∈ rows, Fits ms r)
    (j0 j1 j2 j3 j4 j5 j6 j8 j9 j10 j12 j13 j14 j15 j16 j17 j18 j19 j20 j21 j22 j23 j24 j25 j26 j27 j28 j29 j30 j31 j32 j33 j34 j35 j36 j37 j38 j39 j40 j41 j42 j43 j44 j45 j46 j47 j48 j49 j50 j51 j52 j53 j54 j55 j56 j57 j58 j59 j60 j61 j62 j63 j64 j65 j66 j67 j68 j69 j70 j71 j72 j73 j74 j75 j76 j77 j78 j79 j80 j81 j82 j83 j84 j85 j86 j87 j88 j89 j90 j91 j92 j93 j94 j95 j96 j97 j98 j99 j100 j101 j102 j103 j104 j105 j106 j107 j108 : Value) (Q0 : Exit → Act → World → Prop)
    (h0 : ∀ S, S = mkB (rows.flatMap (lineL 0 ms)) → ∀ j16 j17 j101 j102 j103 j104 j105 j106 j107 j108 D W', w0.heap.size ≤ D → W'.heap[D]? = some (.deferred (some [])) → Below w0.heap.size w0 W' → Q0 .ret { tmps := #[j0, j1, j2, j3, .string S, .int .i64 0, j6, .slice (some ⟨tb, 0, none⟩) rows.length tcap, j8, j9, j10, pt B 0, j12, j13, j14, j15, j16, j17, j18, j19, j20, j21, j22, j23, j24, j25, j26, j27, j28, j29, j30, j31, j32, j33, j34, j35, j36, j37, j38, j39, j40, j41, j42, j43, j44, j45, j46, j47, j48, j49, j50, j51, j52, j53, j54, j55, j56, j57, j58, j59, j60, j61, j62, j63, j64, j65, j66, j67, j68, j69, j70, j71, j72, j73, j74, j75, j76, j77, j78, j79, j80, j81, j82, j83, j84, j85, j86, j87, j88, j89, j90, j91, j92, j93, j94, j95, j96, j97, j98, j99, j100, j101, j102, j103, j104, j105, j106, j107, j108], defers := [{ target := .collected D, args := #[] }] } W')
    (K0 : Act → World → Prop) (hK0 : ∀ a w, (navC [1, 1, 1, 1, 1, 1, 1, 1, 1, 1, 1] (Tryz.f34.body.getD .skip)).wp Tryz.prog Q0 a w → K0 a w) :
    (navC [1, 1, 1, 1, 1, 1, 1, 1, 1, 1, 0] (Tryz.f34.body.getD .skip)).wp Tryz.prog (Exit.then K0 Q0) { tmps := #[j0, j1, j2, j3, j4, j5, j6, .slice (some ⟨tb, 0, none⟩) rows.length tcap, j8, j9, j10, pt B 0, j12, j13, j14, j15, j16, j17, j18, j19, j20, j21, j22, j23, j24, j25, j26, j27, j28, j29, j30, j31, j32, j33, j34, j35, j36, j37, j38, j39, j40, j41, j42, j43, j44, j45, j46, j47, j48, j49, j50, j51, j52, j53, j54, j55, j56, j57, j58, j59, j60, j61, j62, j63, j64, j65, j66, j67, j68, j69, j70, j71, j72, j73, j74, j75, j76, j77, j78, j79, j80, j81, j82, j83, j84, j85, j86, j87, j88, j89, j90, j91, j92, j93, j94, j95, j96, j97, j98, j99, j100, j101, j102, j103, j104, j105, j106, j107, j108], defers := [] } W := by
  conv => arg 2; whnf
  have HK0 := Lib.hid hK0; clear hK0
  have H0 := Lib.hid (h0 _ rfl); clear h0
  have hlen : ∀ r ∈ rows, (lineL 0 ms r).length ≤ 6000 := fun r hr => by
    obtain ⟨k, hk, he⟩ := List.mem_iff_getElem.1 hr
    exact line_len ms r hms (hC.tc.row k r (by rw [← he]; exact List.getElem?_eq_getElem hk)).1 (hf r hr)
  have HLen := Lib.hid hlen; clear hlen
  have HF := Lib.hid hf; clear hf
  have HMS := Lib.hid hms; clear hms
  have HC := Lib.hid hC; clear hC
  go_wp2
  refine HK0.out _ _ ?_
  conv => arg 2; whnf
  go_wp2_with (go_at_call 48; refine (values_any _ _ _ _).mono ?_; rintro e w' ⟨rfl, rfl⟩)
  have htb : tb < W.heap.size := HC.out.tc.tab.lt tb rfl |>.2
  have hbx : ((W.alloc (.cells #[.pointer none, .slice none 0 0] 67)).alloc (.cells #[.slice (some ⟨tb, 0, none⟩) rows.length tcap] 60)).heap[W.heap.size + 1]? = some (.cells #[.slice (some ⟨tb, 0, none⟩) rows.length tcap] 60) := by
    have := Mild.alloc_at (W.alloc (.cells #[.pointer none, .slice none 0 0] 67)) (.cells #[.slice (some ⟨tb, 0, none⟩) rows.length tcap] 60); rw [World.size_alloc] at this; exact this
  have hB0 : Below W.heap.size W ((W.alloc (.cells #[.pointer none, .slice none 0 0] 67)).alloc (.cells #[.slice (some ⟨tb, 0, none⟩) rows.length tcap] 60)) := ((Below.refl _ _).alloc (Nat.le_refl _) _).alloc (by simp) _
  have hB1 : Below (W.alloc (.cells #[.pointer none, .slice none 0 0] 67)).heap.size (W.alloc (.cells #[.pointer none, .slice none 0 0] 67)) ((W.alloc (.cells #[.pointer none, .slice none 0 0] 67)).alloc (.cells #[.slice (some ⟨tb, 0, none⟩) rows.length tcap] 60)) := (Below.refl _ _).alloc (Nat.le_refl _) _
  have hlen : vs.length = rows.length := HC.out.tc.len
  have HVL := Lib.hid hlen; clear hlen
  have hI : ∀ j (h : j < rows.length), ((W.alloc (.cells #[.pointer none, .slice none 0 0] 67)).alloc (.cells #[.slice (some ⟨tb, 0, none⟩) rows.length tcap] 60)).cell? ⟨tb, j, none⟩ = some (vs.getD j undef) := fun j h => by
    rw [hB0.cell (p := ⟨tb, j, none⟩) htb, HC.out.head (k := j) (u := vs.getD j undef) (by rw [List.getD_eq_getElem?_getD, List.getElem?_eq_getElem (by rw [HVL.out]; exact h)]; rfl) rfl]
  refine (wpIn_wide (n := 3)).1 ?_
  refine wpIn_rangeFunc_ownF (F := Fence.wide) (n := 3) rfl (by omega) (gf := 59) (lb := #[pt (W.heap.size + 1) 0]) rfl trivial (enters_of Tryz.func59 (by kernel_rfl) rfl)
    (values_stops Fence.wide 2 trivial rfl (by omega) (W.heap.size + 1) W.heap.size tb rows.length tcap (fun x => vs.getD x.val undef) (by omega) _ htb (by simp) (by simp; omega) (Mild.cell_of_block hbx 0) hI)
    belowK_t (belowK_b (by simp; omega)) (Below.refl _ _) (fun _ => rfl)
    (fun pre W' => Lib.IsBuilderF 67 5 W.heap.size W.heap.size (Lib.byteCells (accM ms rows pre)) W' ∧ Below W.heap.size W W')
    (fun _ _ _ => False)
    (OwnFrom.and (Own.from (I := fun pre W' => Lib.IsBuilderF 67 5 W.heap.size W.heap.size (Lib.byteCells (accM ms rows pre)) W') (fun s A B row hs hg hr => builderF_kept hs hg hr) _) (ownFrom_below (Nat.le_refl _) (by simp; omega)))
    (fun _ _ _ _ _ hs _ _ => hs)
    ⟨builderF_below (Lib.IsBuilderF.of (builder_new (Nat.le_refl _))) hB1, hB0⟩
    (fun x => { tmps := #[j0, j1, j2, j3, j4, j5, j6, .slice (some ⟨tb, 0, none⟩) rows.length tcap, j8, j9, j10, pt B 0, j12, j13, j14, j15, pt W.heap.size 0, vs.getD x.val undef, j18, j19, j20, j21, j22, j23, j24, j25, j26, j27, j28, j29, j30, j31, j32, j33, j34, j35, j36, j37, j38, j39, j40, j41, j42, j43, j44, j45, j46, j47, j48, j49, j50, j51, j52, j53, j54, j55, j56, j57, j58, j59, j60, j61, j62, j63, j64, j65, j66, j67, j68, j69, j70, j71, j72, j73, j74, j75, j76, j77, j78, j79, j80, j81, j82, j83, j84, j85, j86, j87, j88, j89, j90, j91, j92, j93, j94, j95, j96, j97, j98, j99, j100, .slice (some ⟨tb, 0, none⟩) rows.length tcap, .func (.func 59) #[] #[pt (W.heap.size + 1) 0], vs.getD x.val undef, j104, j105, j106, j107, j108], defers := [] }) ?assign ?body ?done ?stop
  case assign =>
    intro l x W K hK
    gi_wp2
    exact hK
  case body =>
    rintro l pre x W' ⟨hbd, hB⟩ hlt
    have hx : rows[x.val]? = some (rows.getD x.val []) := by rw [List.getD_eq_getElem?_getD, List.getElem?_eq_getElem x.isLt]; rfl
    obtain ⟨g, cap, hv, hcap, hg1, hg2⟩ := HC.out.tc.slice hx
    have hvx : vs.getD x.val undef = .slice (some ⟨g, 0, none⟩) 5 cap := by rw [List.getD_eq_getElem?_getD, hv]; rfl
    have hW := HC.out
    have h5 := (hW.tc.row x.val _ hx).1
    have hBx := Mild.lt_of_block hW.box
    have hUx := Mild.lt_of_block hW.wide
    have cB : W'.cell? ⟨B, 0, none⟩ = some (.slice (some ⟨U, 0, none⟩) 5 5) := (hB.cell (p := ⟨B, 0, none⟩) hBx).trans (Mild.cell_of_block hW.box 0)
    have hsz : W.heap.size ≤ W'.heap.size := hB.size
    obtain ⟨L, hL1, hL2⟩ : ∃ L, lineM ms (rows.getD x.val []) = L ∧ L.data.toList = lineL 0 ms (rows.getD x.val []) := ⟨_, rfl, mk_lines _ _⟩
    have hjo := (joined_any U g cap ms (rows.getD x.val []) W' (by omega) (by omega) hcap HMS.out h5
      (fun j n hj => (hB.cell (p := ⟨U, j, none⟩) hUx).trans (by rw [Mild.cell_of_block hW.wide j, List.getElem?_toArray, List.getElem?_map, hj]; rfl))
      (fun j y hj => (hB.cell (p := ⟨g, j, none⟩) hg2).trans (hW.word hx hv hj)) (HF.out _ (List.mem_of_getElem? hx)))
    rw [hL1] at hjo
    have HJO := Lib.hid hjo
    have hL3 : L.size ≤ 6000 := by
      have h1 := HLen.out _ (List.mem_of_getElem? hx)
      rw [← hL2, Array.length_toList] at h1; exact h1
    have HL := Lib.hid hL2
    clear hjo hL1 hL2
    have hal := acc_len ms rows rfl HLen.out pre
    have HB := Lib.hid hB
    have HBD := Lib.hid hbd
    clear hW hv hx hB hbd
    simp only [hvx]
    gi_wp2
    refine ⟨trivial, ?_⟩
    refine (CallsIn.inRound l (callsIn_wide.2 HJO.out)).mono ?_
    rintro e w1 ⟨rfl, hb1⟩
    gi_wp2
    refine ⟨trivial, ?_⟩
    have hz1 : W'.heap.size ≤ w1.heap.size := hb1.size
    have hbd1 := builderF_below HBD.out hb1
    refine (CallsIn.inRound l (callsIn_wide.2 (Tryz.Builder_WriteString_k W.heap.size W.heap.size _ L w1 hbd1 (by rw [Lib.byteCells_length]; omega) (by omega)))).mono ?_
    rintro e w2 ⟨rfl, hat, hb2, hok⟩
    have hk1 := keeps_of_below hb1
    have hk2 := keeps_of_kept hok hb2.size (builderF_block hbd1)
    have hbb : Below W.heap.size W' w2 := (hb1.mono hsz).trans hb2
    have hnew : Lib.IsBuilderF 67 5 W.heap.size W.heap.size (Lib.byteCells (accM ms rows (pre ++ [x]))) w2 := .inr (by rw [acc_snoc, Lib.byteCells_append, ← HL.out]; exact hat)
    have HN := Lib.hid hnew
    have HBB := Lib.hid hbb
    clear hat hok hnew hbb
    gi_wp2
    exact ⟨hk1.trans hk2, HBB.out, HN.out, HB.out.trans HBB.out⟩
  case done =>
    rintro D ys W' hD rfl ⟨hbd, hB⟩ hK
    have HBD := Lib.hid hbd
    have HB := Lib.hid hB
    have HK := Lib.hid hK
    have hD2 : W.heap.size ≤ D := by simp at hD; omega
    clear hbd hB hK hD
    go_wp2_with fail
    refine (Tryz.Builder_String_any_k W.heap.size W.heap.size _ W' HBD.out HB.out.size).mono ?_
    rintro e w2 ⟨rfl, _, hb2, hok⟩
    have hS : (⟨(accM (n := rows.length) ms rows (List.finRange rows.length)).toArray⟩ : ByteArray) = mkB (rows.flatMap (lineL 0 ms)) := by rw [acc_all]; rfl
    rw [hS]
    have hDk : w2.heap[D]? = some (.deferred (some [])) := hok D _ HK.out (fun e => by cases e; obtain ⟨c, T, fz, hc⟩ := builderF_block HBD.out; rw [HK.out] at hc; cases hc) (fun c fz e => by cases e)
    have hBl := HC.out.tc.below.trans ((HB.out.trans hb2).mono HC.out.tc.big)
    have hbg := HC.out.tc.big
    have HD := Lib.hid hDk
    have HBl := Lib.hid hBl
    clear hS hok hb2 hDk hBl
    generalize mkB (rows.flatMap (lineL 0 ms)) = S at H0 ⊢
    go_wp2
    exact H0.out _ _ _ _ _ _ _ _ _ _ D _ (by omega) HD.out HBl.out
  case stop =>
    rintro D c pre W _ _ h _
    exact h.elim
end Go.Proofs.YtajccjbigcdkbaaGreatDoor
