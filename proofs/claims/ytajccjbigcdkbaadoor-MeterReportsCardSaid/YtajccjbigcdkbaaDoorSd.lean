/- The lines of a report. -/
import Derived.Test.YtajccjbigcdkbaaDoorSc
-- USEBDN
set_option linter.unusedSimpArgs false
set_option linter.unusedVariables false
namespace Go.Proofs.YtajccjbigcdkbaaDoor
open Go.ChangeShapes Go.WideShapes Go.ChangeAt Go.RowKit
theorem dig_chars (n : Int) (h : 0 ≤ n) : ∀ b ∈ (dig n).data.toList, 48 ≤ b.toNat ∧ b.toNat ≤ 57 := by
  intro b hb
  have e : (dig n).data.toList = Lib.itoa n := rfl
  rw [e, itoa_nat n h] at hb
  exact dec_digit _ b hb
theorem dig_no (n : Int) (h : 0 ≤ n) (c : UInt8) (hc : c.toNat < 48) : c ∉ (dig n).data.toList := fun hb => by have := dig_chars n h c hb; omega
/-- A cost of four small numbers. -/
structure Low (k : Int) (x : Co) : Prop where
  a : 0 ≤ x.a ∧ x.a ≤ k
  b : 0 ≤ x.b ∧ x.b ≤ k
  c : 0 ≤ x.c ∧ x.c ≤ k
  d : 0 ≤ x.d ∧ x.d ≤ k
theorem low_plain {k : Int} {c : Co} (h : Low k c) (hk : k ≤ 1099511627776) : plainB c = true := by
  have one : ∀ n : Int, 0 ≤ n → n ≤ 1099511627776 → okN n = true := fun n h1 h2 => by unfold okN; simp; omega
  unfold plainB
  rw [one _ h.a.1 (by have := h.a.2; omega), one _ h.b.1 (by have := h.b.2; omega), one _ h.c.1 (by have := h.c.2; omega), one _ h.d.1 (by have := h.d.2; omega)]; rfl
theorem wrap_low (x : Int) (h0 : 0 ≤ x) (h1 : x ≤ 1000000000) : wrap64 x = x := by unfold wrap64; omega
theorem low_add {k m : Int} {x y : Co} (hx : Low k x) (hy : Low m y) (hk : 0 ≤ k ∧ k ≤ 100000000) (hm : 0 ≤ m ∧ m ≤ 100000000) : Low (k + m) (addM x y) := by
  obtain ⟨a1, b1, c1, d1⟩ := hx
  obtain ⟨a2, b2, c2, d2⟩ := hy
  unfold addM
  refine ⟨?_, ?_, ?_, ?_⟩ <;> (show 0 ≤ wrap64 _ ∧ wrap64 _ ≤ _; rw [wrap_low _ (by omega) (by omega)]; omega)
theorem low_sum : ∀ (cs : List Co) (s : Co) (k : Int), 0 ≤ k → k + 65535 * cs.length ≤ 10000000 → Low k s → (∀ c ∈ cs, Low 65535 c) → Low (k + 65535 * cs.length) (cs.foldl addM s)
  | [], s, k, _, _, hs, _ => by simpa using hs
  | c :: cs, s, k, h0, h1, hs, hc => by
    simp only [List.length_cons] at h1 ⊢
    have := low_sum cs (addM s c) (k + 65535) (by omega) (by omega) (low_add hs (hc c (List.mem_cons_self ..)) (by omega) (by omega)) (fun x hx => hc x (List.mem_cons_of_mem _ hx))
    rw [List.foldl_cons]
    rwa [show k + 65535 + 65535 * (cs.length : Int) = k + 65535 * ((cs.length : Int) + 1) by omega] at this
theorem low_zero : Low 0 zeroM := ⟨by decide, by decide, by decide, by decide⟩
/-- Names and costs for a report. -/
structure Fit (names : List ByteArray) (cs : List Co) : Prop where
  len : names.length = cs.length
  few : cs.length ≤ 9
  name : ∀ x ∈ names, namedB x = true ∧ (10 : UInt8) ∉ x.data.toList
  low : ∀ c ∈ cs, Low 65535 c
theorem Fit.reverse {names : List ByteArray} {cs : List Co} (h : Fit names cs) : Fit names.reverse cs.reverse :=
  ⟨by simp [h.len], by simpa using h.few, fun x hx => h.name x (by simpa using hx), fun c hc => h.low c (by simpa using hc)⟩
theorem Fit.sum {names : List ByteArray} {cs : List Co} (h : Fit names cs) : Low 600000 (sumM cs) := by
  have hf := h.few
  have : Low (0 + 65535 * cs.length) (sumM cs) := low_sum cs zeroM 0 (by omega) (by omega) low_zero h.low
  exact ⟨⟨this.a.1, by have := this.a.2; omega⟩, ⟨this.b.1, by have := this.b.2; omega⟩, ⟨this.c.1, by have := this.c.2; omega⟩, ⟨this.d.1, by have := this.d.2; omega⟩⟩
theorem Fit.ok {names : List ByteArray} {cs : List Co} (h : Fit names cs) : allOk names cs = true :=
  ok_all fun k x c hx hc => by
    unfold okM1
    rw [(h.name x (List.mem_of_getElem? hx)).1, low_plain (h.low c (List.mem_of_getElem? hc)) (by omega)]; rfl
theorem Fit.told {names : List ByteArray} {cs : List Co} (h : Fit names cs) : reportT names cs = reportS names cs ∧ reportE names cs = 0 :=
  rep_good (by have := h.few; have := h.len; omega) h.ok (low_plain h.sum (by omega))
def linesM (names : List ByteArray) (cs : List Co) : List ByteArray := (rowsM names cs).map (lnB (widM (rowsM names cs)))
theorem rep_data {names : List ByteArray} {cs : List Co} (h : Fit names cs) : (reportT names cs).data.toList = flat (linesM names cs) := by
  rw [h.told.1]
  show ((rowsM names cs).flatMap (lineL 0 (widM (rowsM names cs)))) = _
  rw [flat_rows]; rfl
theorem row_no {x : ByteArray} {c : Co} {k : Int} (hx : (10 : UInt8) ∉ x.data.toList) (hc : Low k c) : ∀ y ∈ rowM x c, (10 : UInt8) ∉ y.data.toList := by
  simp only [rowM, List.forall_mem_cons, List.not_mem_nil, false_imp_iff, implies_true, and_true]
  exact ⟨hx, dig_no _ hc.a.1 _ (by decide), dig_no _ hc.b.1 _ (by decide), dig_no _ hc.c.1 _ (by decide), dig_no _ hc.d.1 _ (by decide)⟩
theorem rows_no {names : List ByteArray} {cs : List Co} (h : Fit names cs) : ∀ r ∈ rowsM names cs, ∀ y ∈ r, (10 : UInt8) ∉ y.data.toList := by
  intro r hr
  unfold rowsM at hr
  rcases List.mem_append.1 hr with hr | hr
  · rcases List.mem_cons.1 hr with rfl | hr
    · simp only [headM, List.forall_mem_cons, List.not_mem_nil, false_imp_iff, implies_true, and_true]
      exact ⟨by decide, by decide, by decide, by decide, by decide⟩
    · unfold bodyM at hr
      obtain ⟨k, hk⟩ := List.mem_iff_getElem?.1 hr
      rw [List.getElem?_zipWith] at hk
      cases h1 : names[k]? with
      | none => rw [h1] at hk; cases hk
      | some x =>
        cases h2 : cs[k]? with
        | none => rw [h1, h2] at hk; cases hk
        | some c =>
          rw [h1, h2] at hk
          cases hk
          exact row_no (h.name x (List.mem_of_getElem? h1)).2 (h.low c (List.mem_of_getElem? h2))
  · simp only [List.mem_singleton] at hr
    subst hr
    exact row_no (by decide) h.sum
theorem lines_no {names : List ByteArray} {cs : List Co} (h : Fit names cs) : ∀ l ∈ linesM names cs, ∀ b ∈ l.data.toList, b ≠ 10 := by
  intro l hl b hb e
  subst e
  obtain ⟨r, hr, rfl⟩ := List.mem_map.1 hl
  exact body_no 10 (by decide) _ r 0 (rows_no h r hr) hb
theorem lines_len {names : List ByteArray} {cs : List Co} (h : Fit names cs) : (linesM names cs).length = cs.length + 2 := by
  have := h.len
  unfold linesM rowsM bodyM
  simp; omega
/-- All lines are of one length. -/
theorem lines_size {names : List ByteArray} {cs : List Co} (h : Fit names cs) : ∃ z, z ≤ 5008 ∧ ∀ l ∈ linesM names cs, l.size = z := by
  have hs := rows_small h.ok h.len (low_plain h.sum (by omega))
  obtain ⟨g1, _, g3⟩ := wid_all (rowsM names cs) _ wide0 hs
  have hw : (widM (rowsM names cs)).length = 5 := g1.1
  obtain ⟨n0, n1, n2, n3, n4, e⟩ := five hw
  have hb : ∀ m ∈ widM (rowsM names cs), 0 ≤ m ∧ m ≤ 1000 := g1.2
  rw [e] at hb
  simp only [List.forall_mem_cons, List.not_mem_nil, false_imp_iff, implies_true, and_true] at hb
  refine ⟨n0.toNat + (n1.toNat + 2) + (n2.toNat + 2) + (n3.toNat + 2) + (n4.toNat + 2), by omega, fun l hl => ?_⟩
  obtain ⟨r, hr, rfl⟩ := List.mem_map.1 hl
  have hf : Fits (widM (rowsM names cs)) r := g3 r hr
  rw [e] at hf ⊢
  exact ln_size (hs r hr).1 hf
theorem flat_bound (z : Nat) : ∀ ls : List ByteArray, (∀ l ∈ ls, l.size = z) → (flat ls).length = ls.length * (z + 1)
  | [], _ => by simp [flat]
  | l :: ls, h => by
    rw [flat_cons, List.length_append, List.length_cons, size_list, h l (List.mem_cons_self ..), flat_bound z ls fun x hx => h x (List.mem_cons_of_mem _ hx), List.length_cons, Nat.add_mul]; omega
/-- The lines of the turned report. -/
theorem lines_turn {names : List ByteArray} {cs : List Co} (h : Fit names cs) : ∃ A M Z, linesM names cs = A :: M ++ [Z] ∧ linesM names.reverse cs.reverse = A :: M.reverse ++ [Z] ∧ M.length = cs.length ∧
    (∀ (i : Nat) l, M[i]? = some l → ∃ x c, names[i]? = some x ∧ cs[i]? = some c ∧ (∃ rest, l.data.toList = x.data.toList ++ 32 :: rest) ∧ ∃ pre, l.data.toList = pre ++ 32 :: (dig c.d).data.toList) ∧ ∃ pre, Z.data.toList = pre ++ 32 :: (dig (sumM cs).d).data.toList := by
  have hs := rows_small h.ok h.len (low_plain h.sum (by omega))
  obtain ⟨g1, _, _⟩ := wid_all (rowsM names cs) _ wide0 hs
  have hw : (widM (rowsM names cs)).length = 5 := g1.1
  obtain ⟨n0, n1, n2, n3, n4, e⟩ := five hw
  refine ⟨lnB (widM (rowsM names cs)) headM, (bodyM names cs).map (lnB (widM (rowsM names cs))), lnB (widM (rowsM names cs)) (rowM totalB (sumM cs)), by unfold linesM; rw [show rowsM names cs = (headM :: bodyM names cs) ++ [rowM totalB (sumM cs)] from rfl]; simp, ?_, by unfold bodyM; simp [h.len], ?_, ?_⟩
  · unfold linesM
    rw [wid_perm (rows_perm h.len)]
    have : rowsM names.reverse cs.reverse = (headM :: (bodyM names cs).reverse) ++ [rowM totalB (sumM cs)] := by
      unfold rowsM
      rw [body_reverse h.len, sum_perm (List.reverse_perm cs)]
    rw [this]
    simp
  · intro i l hl
    rw [List.getElem?_map, Option.map_eq_some_iff] at hl
    obtain ⟨r, hr, rfl⟩ := hl
    unfold bodyM at hr
    rw [List.getElem?_zipWith] at hr
    cases h1 : names[i]? with
    | none => rw [h1] at hr; cases hr
    | some x =>
      cases h2 : cs[i]? with
      | none => rw [h1, h2] at hr; cases hr
      | some c =>
        rw [h1, h2] at hr
        cases hr
        rw [e]
        exact ⟨x, c, rfl, rfl, ln_first .., ln_last ..⟩
  · rw [e]
    exact ln_last ..
/-- The text that is parsed for a last word. -/
def pfxB : ByteArray := ⟨List.toArray (105 :: 115 :: 115 :: 117 :: 101 :: 115 :: 32 :: 48 :: 44 :: 32 :: 115 :: 99 :: 97 :: 108 :: 97 :: 114 :: 115 :: 32 :: 48 :: 44 :: 32 :: 109 :: 111 :: 118 :: 101 :: 115 :: 32 :: 48 :: 44 :: 32 :: 109 :: 97 :: 115 :: 107 :: 101 :: 100 :: 32 :: [])⟩
theorem pfx_text (d : Int) : pfxB ++ dig d = textM ⟨0, 0, 0, d⟩ := by
  refine bytes_inj ?_
  rw [text_data, tx_data, tx_data, tx_data, tx_data, ByteArray.data_append, Array.toList_append]
  have e : Lib.itoa 0 = [48] := by decide +kernel
  rw [e]
  rfl
theorem pfx_parse (d : Int) (h0 : 0 ≤ d) (h1 : d ≤ 600000) : parseC (pfxB ++ dig d) = ⟨0, 0, 0, d⟩ ∧ parseE (pfxB ++ dig d) = 0 := by
  rw [pfx_text]
  exact parse_some (parse_text _ (low_plain (k := 600000) ⟨by simp, by simp, by simp, ⟨h0, h1⟩⟩ (by omega)))
end Go.Proofs.YtajccjbigcdkbaaDoor
