/- The reference's Parse. -/
import Derived.Test.YtajccjbigcdkbaaGreatDoorZh
-- USEBDN
set_option linter.unusedSimpArgs false
set_option linter.unusedVariables false
namespace Go.Proofs.YtajccjbigcdkbaaGreatDoor
open Go.ChangeShapes Go.WideShapes Go.ChangeAt Go.RowKit
theorem pv_none {s : ByteArray} (h : parseM s = none) : parsedV s = .agg #[.int .i64 0, .int .i64 0, .int .i64 0, .int .i64 0, .int .i64 3] := by
  obtain ⟨h1, h2⟩ := parse_none h
  unfold parsedV; rw [h1, h2]; rfl
theorem pv_some {s : ByteArray} {c : Co} (h : parseM s = some c) : parsedV s = .agg #[.int .i64 c.a, .int .i64 c.b, .int .i64 c.c, .int .i64 c.d, .int .i64 0] := by
  obtain ⟨h1, h2⟩ := parse_some h
  unfold parsedV; rw [h1, h2]
theorem val_step {l : List UInt8} {n : Nat} (hn : lead l = n) (j : Nat) (hj : j < n) : ∃ b d, l[j]? = some b ∧ b.toNat = 48 + d ∧ d ≤ 9 ∧ valB (l.take (j + 1)) = 10 * valB (l.take j) + d := by
  obtain ⟨b, hb, h1, h2⟩ := lead_lt l j (by rw [hn]; exact hj)
  refine ⟨b, b.toNat - 48, hb, by omega, by omega, ?_⟩
  obtain ⟨hlt, he⟩ := List.getElem?_eq_some_iff.1 hb
  rw [List.take_succ_eq_append_getElem hlt, val_snoc, he]
theorem val_bound {l : List UInt8} {n : Nat} (hn : lead l = n) (h13 : n ≤ 13) (j : Nat) (hj : j ≤ n) : valB (l.take j) ≤ 10000000000000 := by
  have hle := lead_le l
  have := val_lt j (l.take j) (by rw [List.length_take]; omega) (fun b hb => by
    obtain ⟨i, hi⟩ := List.mem_iff_getElem?.1 hb
    rw [List.getElem?_take] at hi
    split at hi
    · obtain ⟨c, hc, h2⟩ := lead_lt l i (by omega)
      rw [hi] at hc; cases hc; exact h2
    · cases hi)
  have hp : (10 : Nat) ^ j ≤ 10 ^ 13 := Nat.pow_le_pow_right (by decide) (by omega)
  have : (10 : Nat) ^ 13 = 10000000000000 := by decide
  omega
abbrev zpv : Array Value := #[.int .i64 0, .int .i64 0, .int .i64 0, .int .i64 0, .int .i64 0]

set_option maxRecDepth 100000 in
set_option maxHeartbeats 8000000 in
theorem parsein_any (s : ByteArray) (hs : s.size ≤ 100000) (w : World) : Calls Tryz.prog 16 #[.string s] w fun e w' => e = .returned (parsedV s) ∧ Below w.heap.size w w' := by
  have HNO := Lib.hid (fun (h : okM (numC (scanM s.data.toList [])) s = false) => pv_none (in_not h))
  have HSH := Lib.hid (fun (h : (scanM s.data.toList []).length < 4) => pv_none (in_short h))
  have HYE := Lib.hid (fun (h : okM (numC (scanM s.data.toList [])) s = true) => pv_some (in_same h))
  obtain ⟨R, hR⟩ : ∃ R, scanM s.data.toList [] = R := ⟨_, rfl⟩
  rw [hR] at HNO HSH HYE
  have hsz : s.data.toList.length = s.size := size_list s
  have HSZ := Lib.hid hsz; clear hsz
  have hR0 : scanM (s.data.toList.drop 0) [] = R := hR
  have HR0 := Lib.hid hR0; clear hR0 hR
  go_enter Tryz.func16, Tryz.ntmps16
  go_wp2
  go_loopw [4, 5] (fun t4 t5 wr => ∃ (k q : Nat) (ns : List Int), q ≤ 4 ∧ k ≤ s.size + 14 ∧ t4 = .int .i64 q ∧ t5 = .int .i64 k ∧ Hid (ns.length = q) ∧ Hid (scanM (s.data.toList.drop k) ns = R) ∧ Hid (Mild.Bks w.heap.size w [(w.heap.size + 1, .cells (coc (numC ns)) 28), (w.heap.size, .cells zpv 35)] wr)) (fun _ i _ => s.size + 20 - (intOf i).toNat)
  case atStart =>
    refine ⟨0, 0, [], by omega, by omega, rfl, rfl, Lib.hid rfl, HR0, Lib.hid ⟨by (repeat' (first | (with_reducible exact Below.refl _ _) | (with_reducible assumption) | (with_reducible refine Below.alloc ?_ ?_ _) | (with_reducible refine Below.drew ?_) | (with_reducible refine bdn ?_ _) | (with_reducible refine Below.setCell ?_ ?_ _) | go_size)), by go_size, ?_⟩⟩
    simp only [List.forall_mem_cons, List.not_mem_nil, false_imp_iff, implies_true, and_true]
    exact ⟨by have := Mild.alloc_at (w.alloc (.cells zpv 35)) (.cells (coc (numC [])) 28); rw [World.size_alloc] at this; exact this, Mild.alloc_lt _ (Mild.alloc_at _ _)⟩
  case round =>
    obtain ⟨k, q, ns, hq4, hk, rfl, rfl, hq, hsc, hC⟩ := hrel
    by_cases hlt : k < s.size ∧ q < 4
    · obtain ⟨hk1, hq1⟩ := hlt
      have hki : (k : Int) < s.size := by omega
      have hkl : (k : Int) ≤ s.size := by omega
      have hqi : (q : Int) < 4 := by omega
      have hne : ¬ (s.data.toList.drop k = [] ∨ 4 ≤ ns.length) := by
        rintro (h | h)
        · have := congrArg List.length h
          rw [List.length_drop, HSZ.out] at this
          simp only [List.length_nil] at this
          omega
        · rw [hq.out] at h; omega
      have hd := digits_any (s.extract k s.size) (by rw [ByteArray.size_extract]; omega)
      rw [extract_list, List.take_of_length_le (by rw [HSZ.out]; omega)] at hd
      obtain ⟨n, hn⟩ : ∃ n, lead (s.data.toList.drop k) = n := ⟨_, rfl⟩
      have hnl : n ≤ s.size - k := by
        have := lead_le (s.data.toList.drop k)
        rw [List.length_drop, HSZ.out, hn] at this; exact this
      rw [hn] at hd
      have HD := Lib.hid hd; clear hd
      have HNE := Lib.hid hne; clear hne
      by_cases hbad : n = 0 ∨ 13 < n
      · have hnext : scanM (s.data.toList.drop (k + 1)) ns = R := by
          have := scan_next HNE.out (by rw [hn]; exact hbad)
          rw [hsc.out, List.drop_drop] at this
          exact this.symm
        have HN := Lib.hid hnext; clear hnext hn
        rcases hbad with rfl | hbad
        · go_wp2_with (go_at_call 32; refine (HD.out _).mono ?_; rintro e w1 ⟨rfl, hb⟩)
          go_roundw
          case rel => exact ⟨k + 1, q, ns, hq4, by omega, rfl, by go_num, hq, HN, Lib.hid (Mild.Bks.closed _ _ hC.out hb)⟩
          case measure => simp [intOf] <;> omega
        · have hb1 : ¬ n = 0 := by omega
          have hb2 : (13 : Int) < n := by omega
          go_wp2_with (go_at_call 32; refine (HD.out _).mono ?_; rintro e w1 ⟨rfl, hb⟩)
          go_roundw
          case rel => exact ⟨k + 1, q, ns, hq4, by omega, rfl, by go_num, hq, HN, Lib.hid (Mild.Bks.closed _ _ hC.out hb)⟩
          case measure => simp [intOf] <;> omega
      · have hb1 : ¬ n = 0 := by omega
        have hb2 : ¬ (13 : Int) < n := by omega
        have h13 : n ≤ 13 := by omega
        have hb3 : ¬ 13 < n := by omega
        have hb4 : decide (13 < n) = false := by simp; omega
        have hb5 : (n == 0) = false := by simp; omega
        have hb6 : ((n : Int) == 0) = false := by simp; omega
        have hb7 : decide ((13 : Int) < n) = false := by simp; omega
        obtain ⟨v, hv⟩ : ∃ v, valB ((s.data.toList.drop k).take n) = v := ⟨_, rfl⟩
        have hnext : scanM (s.data.toList.drop (k + n + 1)) (ns ++ [(v : Int)]) = R := by
          have := scan_more HNE.out (by rw [hn]; exact hbad)
          rw [hsc.out, List.drop_drop, hn, hv] at this
          rw [show k + n + 1 = k + (n + 1) by omega]
          exact this.symm
        have HN := Lib.hid hnext
        have HV1 := Lib.hid (fun j (hj : j < n) => val_step hn j hj)
        have HV2 := Lib.hid (fun j (hj : j ≤ n) => val_bound hn h13 j hj)
        have HVV := Lib.hid hv
        have hset : (coc (numC ns)).setIfInBounds q (.int .i64 v) = coc (numC (ns ++ [(v : Int)])) := by
          have := num_set ns (by rw [hq.out]; exact hq1) v
          rw [hq.out] at this; exact this
        have HSE := Lib.hid hset
        clear hnext hn hv hset hbad
        go_upto_block 2 with (go_at_call 32; refine (HD.out _).mono ?_; rintro e w1 ⟨rfl, hb⟩)
        refine pin_val w1 s (by omega) k n v (by omega) h13 (fun j => valB ((s.data.toList.drop k).take j)) rfl HVV.out (fun j hj => by
          obtain ⟨b, d, e1, e2⟩ := HV1.out j hj
          rw [List.getElem?_drop] at e1
          exact ⟨b, d, e1, e2⟩) HV2.out _ _ _ _ _ _ _ _ _ _ _ _ _ _ _ _ _ _ _ _ _ _ _ _ _ _ _ _ _ _ _ _ _ _ _ _ _ _ _ _ _ _ _ _ _ _ _ _ _ _ _ _ _ _ _ _ _ _ _ _ _ _ _ _ _ _ _ _ _ ?_
        intro j8 j32 j33 j34 j35 j36 j37 j38 j39 j40 j41 j42 j43 j44 j45 j46
        have hC1 := Mild.Bks.closed _ _ hC.out hb
        have hbk := hC1.blocks
        simp only [List.forall_mem_cons, List.not_mem_nil, false_imp_iff, implies_true, and_true] at hbk
        obtain ⟨k1, k2⟩ := hbk
        have fA := Mild.free_of_block k1
        have cA := Mild.cell_of_block k1
        have HC1 := Lib.hid hC1
        have HK := Lib.hid (And.intro k1 k2)
        clear hC1 hb hC k1 k2
        go_wp2
        go_roundw
        case rel =>
          refine ⟨k + n + 1, q + 1, ns ++ [(v : Int)], by omega, by omega, by go_num, by go_num, Lib.hid (by rw [List.length_append, hq.out]; rfl), HN, Lib.hid ⟨HC1.out.below.setCell (Nat.le_succ _) _, by simp [World.setCell]; exact HC1.out.big, ?_⟩⟩
          simp only [List.forall_mem_cons, List.not_mem_nil, false_imp_iff, implies_true, and_true]
          rw [← HSE.out]
          exact ⟨Joins.block_setCell HK.out.1 _, Mild.set_ne HK.out.2 (Nat.ne_of_lt (Nat.lt_succ_self _))⟩
        case measure => simp [intOf] <;> omega
    · have hend : R = ns := by
        rw [← hsc.out]
        refine scan_end ?_
        by_cases hk1 : k < s.size
        · exact .inr (by rw [hq.out]; omega)
        · exact .inl (List.drop_eq_nil_iff.2 (by rw [HSZ.out]; omega))
      rw [hend] at HNO HSH HYE
      have hlen := hq.out
      rw [hlen] at HSH
      clear hend hsc hlen
      obtain ⟨c, hc⟩ : ∃ c, numC ns = c := ⟨_, rfl⟩
      rw [hc] at HNO HYE hC
      clear hc
      have hbk := hC.out.blocks
      simp only [List.forall_mem_cons, List.not_mem_nil, false_imp_iff, implies_true, and_true] at hbk
      have cA := Mild.cell_of_block hbk.1
      have bR := hbk.2
      have hbel := hC.out.below
      have hbig := hC.out.big
      clear hbk
      have HBR := Lib.hid (And.intro bR (And.intro hbel hbig))
      clear bR hbel hbig hC
      by_cases hq3 : q < 4
      · have hqi : (q : Int) < 4 := by omega
        have hki : ¬ (k : Int) < s.size := by omega
        have HN := Lib.hid (HSH.out hq3)
        clear HNO HSH HYE hlt
        go_wp2_with (go_at_call 21; refine (of_any _ _ _ _ _).mono ?_; rintro e w1 ⟨rfl, hb1⟩; have b1 : w1.heap[w.heap.size]? = some (.cells zpv 35) := (by rw [hb1.block _ (Mild.lt_of_block HBR.out.1)]; exact HBR.out.1); have c1 := Mild.cell_of_block b1; have f1 := Mild.free_of_block b1; have l1 := Mild.lt_of_block b1; have B1 := HBR.out.2.1.trans (hb1.mono HBR.out.2.2); have z1 := B1.size)
        exact bodyPost_ret (v := .agg #[.int .i64 0, .int .i64 0, .int .i64 0, .int .i64 0, .int .i64 3]) (by simp [results, Tryz.results16, go_sem, *]) rfl ⟨by rw [HN.out], by (repeat' (first | (with_reducible exact Below.refl _ _) | (with_reducible assumption) | (with_reducible refine Below.alloc ?_ ?_ _) | (with_reducible refine Below.drew ?_) | (with_reducible refine bdn ?_ _) | (with_reducible refine Below.setCell ?_ ?_ _) | go_size))⟩
      · obtain rfl : q = 4 := by omega
        clear HSH hlt
        cases hp : plainB c with
        | false =>
          have HN := Lib.hid (HNO.out (by unfold okM; rw [hp]; rfl))
          have HP := Lib.hid hp
          clear HNO HYE hp
          by_cases hk1 : k < s.size
          · have hki : (k : Int) < s.size := by omega
            go_wp2_with (first | (go_at_call 21; refine (of_any _ _ _ _ _).mono ?_; rintro e w1 ⟨rfl, hb1⟩; have b1 : w1.heap[w.heap.size]? = some (.cells zpv 35) := (by rw [hb1.block _ (Mild.lt_of_block HBR.out.1)]; exact HBR.out.1); have c1 := Mild.cell_of_block b1; have f1 := Mild.free_of_block b1; have l1 := Mild.lt_of_block b1; have B1 := HBR.out.2.1.trans (hb1.mono HBR.out.2.2); have z1 := B1.size) | (go_at_call 33; refine (refplain_any c _).mono ?_; rintro e w2 ⟨rfl, hb2⟩; rw [HP.out]; have d2 : w2.heap[w1.heap.size]? = some (.cells (coc c) 23) := (by rw [hb2.block _ (by simp)]; exact Mild.alloc_at _ _); have e2 := Mild.cell_of_block d2; have b2 : w2.heap[w.heap.size]? = some (.cells zpv 35) := (by rw [hb2.block _ (by simp; omega)]; exact Mild.alloc_lt _ b1); have c2 := Mild.cell_of_block b2; have f2 := Mild.free_of_block b2; have l2 := Mild.lt_of_block b2; have B2 := (B1.alloc z1 (.cells (coc c) 23)).trans (hb2.mono (by simp; omega)); have z2 := B2.size; clear c1 f1))
            exact bodyPost_ret (v := .agg #[.int .i64 0, .int .i64 0, .int .i64 0, .int .i64 0, .int .i64 3]) (by simp [results, Tryz.results16, go_sem, *]) rfl ⟨by rw [HN.out], by (repeat' (first | (with_reducible exact Below.refl _ _) | (with_reducible assumption) | (with_reducible refine Below.alloc ?_ ?_ _) | (with_reducible refine Below.drew ?_) | (with_reducible refine bdn ?_ _) | (with_reducible refine Below.setCell ?_ ?_ _) | go_size))⟩
          · have hki : ¬ (k : Int) < s.size := by omega
            go_wp2_with (first | (go_at_call 21; refine (of_any _ _ _ _ _).mono ?_; rintro e w1 ⟨rfl, hb1⟩; have b1 : w1.heap[w.heap.size]? = some (.cells zpv 35) := (by rw [hb1.block _ (Mild.lt_of_block HBR.out.1)]; exact HBR.out.1); have c1 := Mild.cell_of_block b1; have f1 := Mild.free_of_block b1; have l1 := Mild.lt_of_block b1; have B1 := HBR.out.2.1.trans (hb1.mono HBR.out.2.2); have z1 := B1.size) | (go_at_call 33; refine (refplain_any c _).mono ?_; rintro e w2 ⟨rfl, hb2⟩; rw [HP.out]; have d2 : w2.heap[w1.heap.size]? = some (.cells (coc c) 23) := (by rw [hb2.block _ (by simp)]; exact Mild.alloc_at _ _); have e2 := Mild.cell_of_block d2; have b2 : w2.heap[w.heap.size]? = some (.cells zpv 35) := (by rw [hb2.block _ (by simp; omega)]; exact Mild.alloc_lt _ b1); have c2 := Mild.cell_of_block b2; have f2 := Mild.free_of_block b2; have l2 := Mild.lt_of_block b2; have B2 := (B1.alloc z1 (.cells (coc c) 23)).trans (hb2.mono (by simp; omega)); have z2 := B2.size; clear c1 f1))
            exact bodyPost_ret (v := .agg #[.int .i64 0, .int .i64 0, .int .i64 0, .int .i64 0, .int .i64 3]) (by simp [results, Tryz.results16, go_sem, *]) rfl ⟨by rw [HN.out], by (repeat' (first | (with_reducible exact Below.refl _ _) | (with_reducible assumption) | (with_reducible refine Below.alloc ?_ ?_ _) | (with_reducible refine Below.drew ?_) | (with_reducible refine bdn ?_ _) | (with_reducible refine Below.setCell ?_ ?_ _) | go_size))⟩
        | true =>
          have HP := Lib.hid hp
          cases ht : ((textM c).toList == s.toList) with
          | false =>
            have HN := Lib.hid (HNO.out (by unfold okM; rw [hp, ht]; rfl))
            clear HNO HYE hp
            by_cases hk1 : k < s.size
            · have hki : (k : Int) < s.size := by omega
              go_wp2_with (first | (go_at_call 21; refine (of_any _ _ _ _ _).mono ?_; rintro e w1 ⟨rfl, hb1⟩; have b1 : w1.heap[w.heap.size]? = some (.cells zpv 35) := (by rw [hb1.block _ (Mild.lt_of_block HBR.out.1)]; exact HBR.out.1); have c1 := Mild.cell_of_block b1; have f1 := Mild.free_of_block b1; have l1 := Mild.lt_of_block b1; have B1 := HBR.out.2.1.trans (hb1.mono HBR.out.2.2); have z1 := B1.size) | (go_at_call 33; refine (refplain_any c _).mono ?_; rintro e w2 ⟨rfl, hb2⟩; rw [HP.out]; have d2 : w2.heap[w1.heap.size]? = some (.cells (coc c) 23) := (by rw [hb2.block _ (by simp)]; exact Mild.alloc_at _ _); have e2 := Mild.cell_of_block d2; have b2 : w2.heap[w.heap.size]? = some (.cells zpv 35) := (by rw [hb2.block _ (by simp; omega)]; exact Mild.alloc_lt _ b1); have c2 := Mild.cell_of_block b2; have f2 := Mild.free_of_block b2; have l2 := Mild.lt_of_block b2; have B2 := (B1.alloc z1 (.cells (coc c) 23)).trans (hb2.mono (by simp; omega)); have z2 := B2.size; clear c1 f1) | (go_at_call 14; refine (reftext_any c _ HP.out).mono ?_; rintro e w3 ⟨rfl, hb3⟩; have d3 : w3.heap[w1.heap.size]? = some (.cells (coc c) 23) := (by rw [hb3.block _ (Mild.lt_of_block d2)]; exact d2); have e3 := Mild.cell_of_block d3; have b3 : w3.heap[w.heap.size]? = some (.cells zpv 35) := (by rw [hb3.block _ l2]; exact b2); have c3 := Mild.cell_of_block b3; have f3 := Mild.free_of_block b3; have l3 := Mild.lt_of_block b3; have B3 := B2.trans (hb3.mono z2); have z3 := B3.size; clear c2 f2 e2))
              exact bodyPost_ret (v := .agg #[.int .i64 0, .int .i64 0, .int .i64 0, .int .i64 0, .int .i64 3]) (by simp [results, Tryz.results16, go_sem, *]) rfl ⟨by rw [HN.out], by (repeat' (first | (with_reducible exact Below.refl _ _) | (with_reducible assumption) | (with_reducible refine Below.alloc ?_ ?_ _) | (with_reducible refine Below.drew ?_) | (with_reducible refine bdn ?_ _) | (with_reducible refine Below.setCell ?_ ?_ _) | go_size))⟩
            · have hki : ¬ (k : Int) < s.size := by omega
              go_wp2_with (first | (go_at_call 21; refine (of_any _ _ _ _ _).mono ?_; rintro e w1 ⟨rfl, hb1⟩; have b1 : w1.heap[w.heap.size]? = some (.cells zpv 35) := (by rw [hb1.block _ (Mild.lt_of_block HBR.out.1)]; exact HBR.out.1); have c1 := Mild.cell_of_block b1; have f1 := Mild.free_of_block b1; have l1 := Mild.lt_of_block b1; have B1 := HBR.out.2.1.trans (hb1.mono HBR.out.2.2); have z1 := B1.size) | (go_at_call 33; refine (refplain_any c _).mono ?_; rintro e w2 ⟨rfl, hb2⟩; rw [HP.out]; have d2 : w2.heap[w1.heap.size]? = some (.cells (coc c) 23) := (by rw [hb2.block _ (by simp)]; exact Mild.alloc_at _ _); have e2 := Mild.cell_of_block d2; have b2 : w2.heap[w.heap.size]? = some (.cells zpv 35) := (by rw [hb2.block _ (by simp; omega)]; exact Mild.alloc_lt _ b1); have c2 := Mild.cell_of_block b2; have f2 := Mild.free_of_block b2; have l2 := Mild.lt_of_block b2; have B2 := (B1.alloc z1 (.cells (coc c) 23)).trans (hb2.mono (by simp; omega)); have z2 := B2.size; clear c1 f1) | (go_at_call 14; refine (reftext_any c _ HP.out).mono ?_; rintro e w3 ⟨rfl, hb3⟩; have d3 : w3.heap[w1.heap.size]? = some (.cells (coc c) 23) := (by rw [hb3.block _ (Mild.lt_of_block d2)]; exact d2); have e3 := Mild.cell_of_block d3; have b3 : w3.heap[w.heap.size]? = some (.cells zpv 35) := (by rw [hb3.block _ l2]; exact b2); have c3 := Mild.cell_of_block b3; have f3 := Mild.free_of_block b3; have l3 := Mild.lt_of_block b3; have B3 := B2.trans (hb3.mono z2); have z3 := B3.size; clear c2 f2 e2))
              exact bodyPost_ret (v := .agg #[.int .i64 0, .int .i64 0, .int .i64 0, .int .i64 0, .int .i64 3]) (by simp [results, Tryz.results16, go_sem, *]) rfl ⟨by rw [HN.out], by (repeat' (first | (with_reducible exact Below.refl _ _) | (with_reducible assumption) | (with_reducible refine Below.alloc ?_ ?_ _) | (with_reducible refine Below.drew ?_) | (with_reducible refine bdn ?_ _) | (with_reducible refine Below.setCell ?_ ?_ _) | go_size))⟩
          | true =>
            have HN := Lib.hid (HYE.out (by unfold okM; rw [hp, ht]; rfl))
            clear HNO HYE hp
            by_cases hk1 : k < s.size
            · have hki : (k : Int) < s.size := by omega
              go_wp2_with (first | (go_at_call 21; refine (of_any _ _ _ _ _).mono ?_; rintro e w1 ⟨rfl, hb1⟩; have b1 : w1.heap[w.heap.size]? = some (.cells zpv 35) := (by rw [hb1.block _ (Mild.lt_of_block HBR.out.1)]; exact HBR.out.1); have c1 := Mild.cell_of_block b1; have f1 := Mild.free_of_block b1; have l1 := Mild.lt_of_block b1; have B1 := HBR.out.2.1.trans (hb1.mono HBR.out.2.2); have z1 := B1.size) | (go_at_call 33; refine (refplain_any c _).mono ?_; rintro e w2 ⟨rfl, hb2⟩; rw [HP.out]; have d2 : w2.heap[w1.heap.size]? = some (.cells (coc c) 23) := (by rw [hb2.block _ (by simp)]; exact Mild.alloc_at _ _); have e2 := Mild.cell_of_block d2; have b2 : w2.heap[w.heap.size]? = some (.cells zpv 35) := (by rw [hb2.block _ (by simp; omega)]; exact Mild.alloc_lt _ b1); have c2 := Mild.cell_of_block b2; have f2 := Mild.free_of_block b2; have l2 := Mild.lt_of_block b2; have B2 := (B1.alloc z1 (.cells (coc c) 23)).trans (hb2.mono (by simp; omega)); have z2 := B2.size; clear c1 f1) | (go_at_call 14; refine (reftext_any c _ HP.out).mono ?_; rintro e w3 ⟨rfl, hb3⟩; have d3 : w3.heap[w1.heap.size]? = some (.cells (coc c) 23) := (by rw [hb3.block _ (Mild.lt_of_block d2)]; exact d2); have e3 := Mild.cell_of_block d3; have b3 : w3.heap[w.heap.size]? = some (.cells zpv 35) := (by rw [hb3.block _ l2]; exact b2); have c3 := Mild.cell_of_block b3; have f3 := Mild.free_of_block b3; have l3 := Mild.lt_of_block b3; have B3 := B2.trans (hb3.mono z2); have z3 := B3.size; clear c2 f2 e2))
              exact bodyPost_ret (v := .agg #[.int .i64 c.a, .int .i64 c.b, .int .i64 c.c, .int .i64 c.d, .int .i64 0]) (by simp [results, Tryz.results16, go_sem, *]) rfl ⟨by rw [HN.out], by (repeat' (first | (with_reducible exact Below.refl _ _) | (with_reducible assumption) | (with_reducible refine Below.alloc ?_ ?_ _) | (with_reducible refine Below.drew ?_) | (with_reducible refine bdn ?_ _) | (with_reducible refine Below.setCell ?_ ?_ _) | go_size))⟩
            · have hki : ¬ (k : Int) < s.size := by omega
              go_wp2_with (first | (go_at_call 21; refine (of_any _ _ _ _ _).mono ?_; rintro e w1 ⟨rfl, hb1⟩; have b1 : w1.heap[w.heap.size]? = some (.cells zpv 35) := (by rw [hb1.block _ (Mild.lt_of_block HBR.out.1)]; exact HBR.out.1); have c1 := Mild.cell_of_block b1; have f1 := Mild.free_of_block b1; have l1 := Mild.lt_of_block b1; have B1 := HBR.out.2.1.trans (hb1.mono HBR.out.2.2); have z1 := B1.size) | (go_at_call 33; refine (refplain_any c _).mono ?_; rintro e w2 ⟨rfl, hb2⟩; rw [HP.out]; have d2 : w2.heap[w1.heap.size]? = some (.cells (coc c) 23) := (by rw [hb2.block _ (by simp)]; exact Mild.alloc_at _ _); have e2 := Mild.cell_of_block d2; have b2 : w2.heap[w.heap.size]? = some (.cells zpv 35) := (by rw [hb2.block _ (by simp; omega)]; exact Mild.alloc_lt _ b1); have c2 := Mild.cell_of_block b2; have f2 := Mild.free_of_block b2; have l2 := Mild.lt_of_block b2; have B2 := (B1.alloc z1 (.cells (coc c) 23)).trans (hb2.mono (by simp; omega)); have z2 := B2.size; clear c1 f1) | (go_at_call 14; refine (reftext_any c _ HP.out).mono ?_; rintro e w3 ⟨rfl, hb3⟩; have d3 : w3.heap[w1.heap.size]? = some (.cells (coc c) 23) := (by rw [hb3.block _ (Mild.lt_of_block d2)]; exact d2); have e3 := Mild.cell_of_block d3; have b3 : w3.heap[w.heap.size]? = some (.cells zpv 35) := (by rw [hb3.block _ l2]; exact b2); have c3 := Mild.cell_of_block b3; have f3 := Mild.free_of_block b3; have l3 := Mild.lt_of_block b3; have B3 := B2.trans (hb3.mono z2); have z3 := B3.size; clear c2 f2 e2))
              exact bodyPost_ret (v := .agg #[.int .i64 c.a, .int .i64 c.b, .int .i64 c.c, .int .i64 c.d, .int .i64 0]) (by simp [results, Tryz.results16, go_sem, *]) rfl ⟨by rw [HN.out], by (repeat' (first | (with_reducible exact Below.refl _ _) | (with_reducible assumption) | (with_reducible refine Below.alloc ?_ ?_ _) | (with_reducible refine Below.drew ?_) | (with_reducible refine bdn ?_ _) | (with_reducible refine Below.setCell ?_ ?_ _) | go_size))⟩
end Go.Proofs.YtajccjbigcdkbaaGreatDoor
