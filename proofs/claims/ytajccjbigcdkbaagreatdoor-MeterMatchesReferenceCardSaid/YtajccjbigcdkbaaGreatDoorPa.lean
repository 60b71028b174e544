/- Numbers as text, and back; a text cut at its commas. -/
import Derived.Test.YtajccjbigcdkbaaGreatDoorMl
set_option linter.unusedSimpArgs false
set_option linter.unusedVariables false
namespace Go.Proofs.YtajccjbigcdkbaaGreatDoor
open Go.Lib
theorem dec_rec (u : Nat) (h : ¬ u < 10) : decDigits u = decDigits (u / 10) ++ [UInt8.ofNat (48 + u % 10)] := by
  rw [decDigits, dif_neg h]
theorem digit_nat (k : Nat) (h : k < 10) : (UInt8.ofNat (48 + k)).toNat = 48 + k := by
  rw [UInt8.toNat_ofNat']; omega
theorem dec_digit (u : Nat) : ∀ b ∈ decDigits u, 48 ≤ b.toNat ∧ b.toNat ≤ 57 := by
  induction u using Nat.strongRecOn with
  | _ u ih =>
    by_cases h : u < 10
    · rw [decDigits_one h]
      intro b hb
      simp only [List.mem_singleton] at hb
      rw [hb, digit_nat u h]; omega
    · rw [dec_rec u h]
      intro b hb
      rcases List.mem_append.1 hb with hb | hb
      · exact ih (u / 10) (by omega) b hb
      · simp only [List.mem_singleton] at hb
        rw [hb, digit_nat _ (Nat.mod_lt _ (by omega))]; omega
theorem parse_append (l2 : List UInt8) : ∀ (l1 : List UInt8) (acc v : Nat), parseUint10 acc l1 = .ok v → parseUint10 acc (l1 ++ l2) = parseUint10 v l2
  | [], acc, v, h => by
    simp only [parseUint10] at h
    injection h with h
    rw [h]; rfl
  | c :: l1, acc, v, h => by
    simp only [parseUint10, List.cons_append] at h ⊢
    split at h
    · rename_i h1
      rw [if_pos h1]
      split at h
      · cases h
      · rename_i h2
        rw [if_neg h2]
        split at h
        · cases h
        · rename_i h3
          rw [if_neg h3]
          exact parse_append l2 l1 _ v h
    · cases h
theorem parse_one (acc k : Nat) (hk : k < 10) (ha : acc < 1844674407370955161) : parseUint10 acc [UInt8.ofNat (48 + k)] = .ok (acc * 10 + k) := by
  simp only [parseUint10]
  rw [digit_nat k hk, if_pos ⟨by omega, by omega⟩, if_neg (by omega), if_neg (by omega)]
  congr 1; omega
theorem parse_dec (u : Nat) : u < 18446744073709551610 → parseUint10 0 (decDigits u) = .ok u := by
  induction u using Nat.strongRecOn with
  | _ u ih =>
    intro hu
    by_cases h : u < 10
    · rw [decDigits_one h, parse_one 0 u h (by omega)]; congr 1; omega
    · rw [dec_rec u h, parse_append _ _ _ (u / 10) (ih (u / 10) (by omega) (by omega)), parse_one (u / 10) (u % 10) (Nat.mod_lt _ (by omega)) (by omega)]
      congr 1; omega
theorem dec_ne (u : Nat) : decDigits u ≠ [] := by
  by_cases h : u < 10
  · rw [decDigits_one h]; simp
  · rw [dec_rec u h]; simp
theorem itoa_nat (n : Int) (h : 0 ≤ n) : itoa n = decDigits n.toNat := by unfold itoa; rw [if_neg (by omega)]
theorem atoi_itoa (n : Int) (h0 : 0 ≤ n) (h1 : n < 9223372036854775808) : atoiAll (itoa n) = .ok n := by
  rw [itoa_nat n h0]
  have hp := parse_dec n.toNat (by omega)
  have hd := dec_digit n.toNat
  cases hl : decDigits n.toNat with
  | nil => exact absurd hl (dec_ne _)
  | cons c r =>
    rw [hl] at hp hd
    have hc := hd c (List.mem_cons_self ..)
    rw [atoiAll_plain c r (by omega) (by omega)]
    unfold parseMag
    rw [if_neg (by simp), hp]
    show (if 9223372036854775808 ≤ n.toNat then NumEnd.range else NumEnd.ok (n.toNat : Int)) = _
    rw [if_neg (by omega)]
    congr 1; omega
/-! ### Where a separator stands -/
theorem idx2 (rest : List UInt8) : ∀ p : List UInt8, (∀ b ∈ p, b ≠ 44) → index (p ++ 44 :: 32 :: rest) [44, 32] = p.length
  | [], _ => by simp [index, List.isPrefixOf]
  | b :: p, h => by
    have ih := idx2 rest p fun x hx => h x (List.mem_cons_of_mem _ hx)
    have hb := h b (List.mem_cons_self ..)
    rw [List.cons_append, index, if_neg (by simp [List.isPrefixOf]; intro e; exact absurd e.symm hb), ih, if_neg (by simp)]
    simp
theorem idx2_none : ∀ p : List UInt8, (∀ b ∈ p, b ≠ 44) → index p [44, 32] = -1
  | [], _ => by simp [index]
  | b :: p, h => by
    have ih := idx2_none p fun x hx => h x (List.mem_cons_of_mem _ hx)
    have hb := h b (List.mem_cons_self ..)
    rw [index, if_neg (by simp [List.isPrefixOf]; intro e; exact absurd e.symm hb), ih]
    rfl
theorem idx1 (rest : List UInt8) : ∀ p : List UInt8, (∀ b ∈ p, b ≠ 32) → index (p ++ 32 :: rest) [32] = p.length
  | [], _ => by simp [index, List.isPrefixOf]
  | b :: p, h => by
    have ih := idx1 rest p fun x hx => h x (List.mem_cons_of_mem _ hx)
    have hb := h b (List.mem_cons_self ..)
    rw [List.cons_append, index, if_neg (by simp [List.isPrefixOf]; intro e; exact absurd e.symm hb), ih, if_neg (by simp)]
    simp
theorem cut1 (p rest : List UInt8) (h : ∀ b ∈ p, b ≠ 32) : (cut (p ++ 32 :: rest) [32]).2.1 = rest := by
  unfold cut
  rw [idx1 rest p h, if_pos (by omega)]
  simp
theorem split_last (k : Nat) (p : List UInt8) (h : ∀ b ∈ p, b ≠ 44) : splitK [44, 32] 0 k p = [p] := by
  cases k with
  | zero => rfl
  | succ k => rw [splitK, idx2_none p h]; rfl
theorem split_next (k : Nat) (p rest : List UInt8) (h : ∀ b ∈ p, b ≠ 44) : splitK [44, 32] 0 (k + 1) (p ++ 44 :: 32 :: rest) = p :: splitK [44, 32] 0 k rest := by
  rw [splitK, idx2 rest p h, if_neg (by simp)]
  simp
theorem count_next (p rest : List UInt8) (h : ∀ b ∈ p, b ≠ 44) : count (p ++ 44 :: 32 :: rest) [44, 32] = 1 + count rest [44, 32] := by
  rw [count_hit (i := p.length) (by simp) (idx2 rest p h)]
  simp
theorem count_last (p : List UInt8) (h : ∀ b ∈ p, b ≠ 44) : count p [44, 32] = 0 := count_miss (idx2_none p h)
theorem bytes_inj {a b : ByteArray} (h : a.data.toList = b.data.toList) : a = b := by
  apply ByteArray.ext
  exact Array.toList_inj.1 h
theorem map_inj : ∀ {l m : List ByteArray}, l.map (·.data.toList) = m.map (·.data.toList) → l = m
  | [], [], _ => rfl
  | [], _ :: _, h => by simp at h
  | _ :: _, [], h => by simp at h
  | a :: l, b :: m, h => by
    simp only [List.map_cons, List.cons.injEq] at h
    rw [bytes_inj h.1, map_inj h.2]
/-- A text of four parts that have no comma. -/
theorem parts_four (s p q r t : ByteArray) (hs : s.data.toList = p.data.toList ++ 44 :: 32 :: (q.data.toList ++ 44 :: 32 :: (r.data.toList ++ 44 :: 32 :: t.data.toList)))
    (hp : ∀ b ∈ p.data.toList, b ≠ 44) (hq : ∀ b ∈ q.data.toList, b ≠ 44) (hr : ∀ b ∈ r.data.toList, b ≠ 44) (ht : ∀ b ∈ t.data.toList, b ≠ 44) : partsB s = [p, q, r, t] := by
  have hc : countB s sepB = 3 := by
    show count s.data.toList [44, 32] = 3
    rw [hs, count_next _ _ hp, count_next _ _ hq, count_next _ _ hr, count_last _ ht]
  unfold partsB
  rw [hc]
  apply map_inj
  rw [splitB_data]
  show splitK [44, 32] 0 3 s.data.toList = _
  rw [hs, split_next _ _ _ hp, split_next _ _ _ hq, split_next _ _ _ hr, split_last _ _ ht]
  rfl
/-! ### A cost's text -/
theorem wd_chars (i : Nat) : ∀ b ∈ (wd i).data.toList, b ≠ 44 ∧ b ≠ 32 := by
  match i with
  | 0 => decide
  | 1 => decide
  | 2 => decide
  | n + 3 => show ∀ b ∈ (wd 3).data.toList, b ≠ 44 ∧ b ≠ 32; decide
theorem tx_data (i : Nat) (x : Int) : (tx i x).data.toList = (wd i).data.toList ++ 32 :: itoa x := by
  unfold tx
  rw [ByteArray.data_append, ByteArray.data_append]
  simp
theorem tx_comma (i : Nat) (x : Int) (h : 0 ≤ x) : ∀ b ∈ (tx i x).data.toList, b ≠ 44 := by
  intro b hb
  rw [tx_data] at hb
  rcases List.mem_append.1 hb with hb | hb
  · exact (wd_chars i b hb).1
  · rcases List.mem_cons.1 hb with rfl | hb
    · decide
    · rw [itoa_nat x h] at hb
      have := dec_digit _ b hb
      intro e; subst e; revert this; decide
theorem tx_num (i : Nat) (x : Int) (h0 : 0 ≤ x) (h1 : x < 9223372036854775808) : numB (tx i x) = some x := by
  apply num_ok
  show atoiAll (cut (tx i x).data.toList [32]).2.1 = _
  rw [tx_data, cut1 _ _ (fun b hb => (wd_chars i b hb).2), atoi_itoa x h0 h1]
theorem text_data (c : Co) : (textM c).data.toList = (tx 0 c.a).data.toList ++ 44 :: 32 :: ((tx 1 c.b).data.toList ++ 44 :: 32 :: ((tx 2 c.c).data.toList ++ 44 :: 32 :: (tx 3 c.d).data.toList)) := by
  unfold textM join
  simp [List.intercalate, List.intersperse]
theorem okN_in' {x : Int} (h : okN x = true) : 0 ≤ x ∧ x ≤ 1099511627776 := by
  unfold okN at h
  simpa using h
theorem plain_in' {c : Co} (h : plainB c = true) : (0 ≤ c.a ∧ c.a ≤ 1099511627776) ∧ (0 ≤ c.b ∧ c.b ≤ 1099511627776) ∧ (0 ≤ c.c ∧ c.c ≤ 1099511627776) ∧ (0 ≤ c.d ∧ c.d ≤ 1099511627776) := by
  unfold plainB at h
  simp only [Bool.and_eq_true] at h
  exact ⟨okN_in' h.1.1.1, okN_in' h.1.1.2, okN_in' h.1.2, okN_in' h.2⟩
theorem okM_text (c : Co) (h : plainB c = true) : okM c (textM c) = true := by
  unfold okM; rw [h]; simp
/-- Parse inverts Text. -/
theorem parse_text (c : Co) (h : plainB c = true) : parseM (textM c) = some c := by
  obtain ⟨⟨a0, a1⟩, ⟨b0, b1⟩, ⟨c0, c1⟩, ⟨d0, d1⟩⟩ := plain_in' h
  rw [good_num (parts_four _ _ _ _ _ (text_data c) (tx_comma _ _ a0) (tx_comma _ _ b0) (tx_comma _ _ c0) (tx_comma _ _ d0)) (tx_num 0 _ a0 (by omega)) (tx_num 1 _ b0 (by omega)) (tx_num 2 _ c0 (by omega)) (tx_num 3 _ d0 (by omega))]
  rw [if_pos (okM_text c h)]
theorem text_inj (c d : Co) (hc : plainB c = true) (hd : plainB d = true) (h : textM c = textM d) : c = d := by
  have h1 := parse_text c hc
  rw [h, parse_text d hd] at h1
  exact (Option.some.inj h1).symm
/-- What is parsed has the text. -/
theorem parse_sound {s : ByteArray} {c : Co} (h : parseM s = some c) : textM c = s ∧ plainB c = true := by
  unfold parseM at h
  split at h
  · split at h
    · rename_i h1
      cases h
      unfold okM at h1
      simp only [Bool.and_eq_true, beq_iff_eq] at h1
      exact ⟨bytes_inj (by have := h1.2; rwa [ByteArray.toList_eq, ByteArray.toList_eq] at this), h1.1⟩
    · cases h
  · cases h
end Go.Proofs.YtajccjbigcdkbaaGreatDoor
