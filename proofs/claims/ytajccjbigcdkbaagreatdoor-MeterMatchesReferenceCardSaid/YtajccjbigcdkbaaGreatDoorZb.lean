/- Bytes and lists (as in the reports' texts). -/
import Derived.Test.YtajccjbigcdkbaaGreatDoorPa
import Derived.Test.YtajccjbigcdkbaaGreatDoorPd
import Derived.Test.YtajccjbigcdkbaaGreatDoorQa
import Derived.Laws.RangeString
import Derived.Laws.RangeAny
-- USEBDN
set_option linter.unusedSimpArgs false
set_option linter.unusedVariables false
namespace Go.Proofs.YtajccjbigcdkbaaGreatDoor
open Go.ChangeShapes Go.WideShapes Go.ChangeAt Go.RowKit
theorem byte_at {s : ByteArray} {l : List UInt8} (hs : s.data.toList = l) {i : Nat} (h : i < s.size) {b : UInt8} (hb : l[i]? = some b) : s[i] = b := by
  subst hs
  rw [Array.getElem?_toList, Array.getElem?_eq_getElem h] at hb
  exact Option.some.inj hb
theorem extract_list (s : ByteArray) (a b : Nat) : (s.extract a b).data.toList = (s.data.toList.take b).drop a := by
  rw [ByteArray.data_extract, Array.toList_extract, List.extract_eq_take_drop, List.drop_take]
theorem size_list (l : ByteArray) : l.data.toList.length = l.size := by rw [Array.length_toList]; rfl
theorem dig_chars (n : Int) (h : 0 ≤ n) : ∀ b ∈ (dig n).data.toList, 48 ≤ b.toNat ∧ b.toNat ≤ 57 := by
  intro b hb
  have e : (dig n).data.toList = Lib.itoa n := rfl
  rw [e, itoa_nat n h] at hb
  exact dec_digit _ b hb
end Go.Proofs.YtajccjbigcdkbaaGreatDoor
namespace Go.Proofs.YtajccjbigcdkbaaGreatDoor
open Go.ChangeShapes Go.WideShapes Go.ChangeAt Go.RowKit
theorem numbers_any (x : Co) (w : World) : Calls Tryz.prog 6 #[cov x] w fun e w' => e = .returned (cov x) ∧ Below w.heap.size w w' := by
  go_enter Tryz.func6, Tryz.ntmps6
  go_wp2
  exact bodyPost_ret (v := cov x) (by simp [results, Tryz.results6, go_sem, *]) rfl ⟨rfl, by (repeat' (first | (with_reducible exact Below.refl _ _) | (with_reducible assumption) | (with_reducible refine Below.alloc ?_ ?_ _) | (with_reducible refine Below.drew ?_) | (with_reducible refine bdn ?_ _) | (with_reducible refine Below.setCell ?_ ?_ _) | go_size))⟩
theorem word0 (w : World) : Calls Tryz.prog 29 #[.int .i64 0] w fun e w' => e = .returned (.string (wd 0)) ∧ Below w.heap.size w w' := by
  go_enter Tryz.func29, Tryz.ntmps29
  go_wp2
  exact bodyPost_ret (v := .string (wd 0)) (by simp [results, Tryz.results29, go_sem, *, wd]) rfl ⟨rfl, by (repeat' (first | (with_reducible exact Below.refl _ _) | (with_reducible assumption) | (with_reducible refine Below.alloc ?_ ?_ _) | (with_reducible refine Below.drew ?_) | (with_reducible refine bdn ?_ _) | (with_reducible refine Below.setCell ?_ ?_ _) | go_size))⟩
theorem word1 (w : World) : Calls Tryz.prog 29 #[.int .i64 1] w fun e w' => e = .returned (.string (wd 1)) ∧ Below w.heap.size w w' := by
  go_enter Tryz.func29, Tryz.ntmps29
  go_wp2
  exact bodyPost_ret (v := .string (wd 1)) (by simp [results, Tryz.results29, go_sem, *, wd]) rfl ⟨rfl, by (repeat' (first | (with_reducible exact Below.refl _ _) | (with_reducible assumption) | (with_reducible refine Below.alloc ?_ ?_ _) | (with_reducible refine Below.drew ?_) | (with_reducible refine bdn ?_ _) | (with_reducible refine Below.setCell ?_ ?_ _) | go_size))⟩
theorem word2 (w : World) : Calls Tryz.prog 29 #[.int .i64 2] w fun e w' => e = .returned (.string (wd 2)) ∧ Below w.heap.size w w' := by
  go_enter Tryz.func29, Tryz.ntmps29
  go_wp2
  exact bodyPost_ret (v := .string (wd 2)) (by simp [results, Tryz.results29, go_sem, *, wd]) rfl ⟨rfl, by (repeat' (first | (with_reducible exact Below.refl _ _) | (with_reducible assumption) | (with_reducible refine Below.alloc ?_ ?_ _) | (with_reducible refine Below.drew ?_) | (with_reducible refine bdn ?_ _) | (with_reducible refine Below.setCell ?_ ?_ _) | go_size))⟩
theorem word3 (w : World) : Calls Tryz.prog 29 #[.int .i64 3] w fun e w' => e = .returned (.string (wd 3)) ∧ Below w.heap.size w w' := by
  go_enter Tryz.func29, Tryz.ntmps29
  go_wp2
  exact bodyPost_ret (v := .string (wd 3)) (by simp [results, Tryz.results29, go_sem, *, wd]) rfl ⟨rfl, by (repeat' (first | (with_reducible exact Below.refl _ _) | (with_reducible assumption) | (with_reducible refine Below.alloc ?_ ?_ _) | (with_reducible refine Below.drew ?_) | (with_reducible refine bdn ?_ _) | (with_reducible refine Below.setCell ?_ ?_ _) | go_size))⟩
/-- So many blanks. -/
def blanksB (k : Nat) : ByteArray := ⟨(List.replicate k 32).toArray⟩
theorem blanks_succ (k : Nat) : blanksB (k + 1) = blanksB k ++ ⟨#[32]⟩ := by
  refine bytes_inj ?_
  rw [ByteArray.data_append, Array.toList_append]
  simp [blanksB, List.replicate_succ']
theorem blanks_size (k : Nat) : (blanksB k).size = k := by
  show (blanksB k).data.size = k
  simp [blanksB]
set_option maxRecDepth 20000 in
theorem blanks_any (n : Nat) (hn : n ≤ 100000) (w : World) : Calls Tryz.prog 37 #[.int .i64 n] w fun e w' => e = .returned (.string (blanksB n)) ∧ Below w.heap.size w w' := by
  go_enter Tryz.func37, Tryz.ntmps37
  go_wp2
  go_loopw [3, 4] (fun o i wr => ∃ k : Nat, k ≤ n ∧ o = .string (blanksB k) ∧ i = .int .i64 k ∧ wr = w) (fun _ i _ => n - (intOf i).toNat)
  case atStart => exact ⟨0, Nat.zero_le _, rfl, rfl, rfl⟩
  case round =>
    obtain ⟨k, hk, rfl, rfl, rfl⟩ := hrel
    by_cases hlt : k < n
    · have hq : (k : Int) < n := by omega
      have hsz := blanks_size k
      have hs5 : ¬ 9223372036854775807 < k + 1 := by omega
      have HS := Lib.hid (blanks_succ k)
      go_wp2
      go_roundw
      case rel => exact ⟨k + 1, by omega, by rw [HS.out], by go_num, trivial⟩
      case measure => simp [intOf] <;> omega
    · obtain rfl : k = n := by omega
      have hq : ¬ (k : Int) < k := by omega
      go_wp2
      exact bodyPost_ret (v := .string (blanksB k)) (by simp [results, Tryz.results37, go_sem, *]) rfl ⟨rfl, Below.refl _ _⟩
theorem blanks_neg (n : Int) (hn : n ≤ 0) (w : World) : Calls Tryz.prog 37 #[.int .i64 n] w fun e w' => e = .returned (.string (blanksB 0)) ∧ Below w.heap.size w w' := by
  have hq : ¬ (0 : Int) < n := by omega
  go_enter Tryz.func37, Tryz.ntmps37
  go_wp2
  refine wp_loop_rounds 1 ?_
  rw [rounds_succ]
  go_wp2
  exact bodyPost_ret (v := .string (blanksB 0)) (by simp [results, Tryz.results37, go_sem, *, blanksB]) rfl ⟨rfl, Below.refl _ _⟩
end Go.Proofs.YtajccjbigcdkbaaGreatDoor
namespace Go.Proofs.YtajccjbigcdkbaaGreatDoor
open Go.ChangeShapes Go.WideShapes Go.ChangeAt Go.RowKit
def isDig (b : UInt8) : Bool := decide (48 ≤ b.toNat) && decide (b.toNat ≤ 57)
/-- How many digits a list begins with. -/
def lead (l : List UInt8) : Nat := (l.takeWhile isDig).length
theorem lead_le (l : List UInt8) : lead l ≤ l.length := by
  unfold lead
  induction l with
  | nil => simp
  | cons b l ih => rw [List.takeWhile_cons]; split <;> simp <;> omega
theorem lead_lt : ∀ (l : List UInt8) (k : Nat) (h : k < lead l), ∃ b, l[k]? = some b ∧ 48 ≤ b.toNat ∧ b.toNat ≤ 57
  | [], k, h => by simp [lead] at h
  | b :: l, k, h => by
    unfold lead at h
    rw [List.takeWhile_cons] at h
    split at h
    · rename_i hb
      cases k with
      | zero => exact ⟨b, rfl, by simpa [isDig] using hb⟩
      | succ k =>
        obtain ⟨c, hc, h2⟩ := lead_lt l k (by unfold lead; simpa using h)
        exact ⟨c, by rw [List.getElem?_cons_succ]; exact hc, h2⟩
    · simp at h
theorem lead_at : ∀ (l : List UInt8) (b : UInt8), l[lead l]? = some b → isDig b = false
  | [], b, h => by simp at h
  | c :: l, b, h => by
    unfold lead at h
    rw [List.takeWhile_cons] at h
    by_cases hc : isDig c = true
    · rw [if_pos hc] at h
      exact lead_at l b (by unfold lead; simpa using h)
    · rw [if_neg hc] at h
      simp only [List.length_nil, List.getElem?_cons_zero, Option.some.injEq] at h
      rw [← h]; simpa using hc
theorem byte_nat {s : ByteArray} {k : Nat} (h : k < s.size) {b : UInt8} (hb : s.data.toList[k]? = some b) : (s[k]'h).toNat = b.toNat := by rw [byte_at rfl h hb]
set_option maxRecDepth 20000 in
theorem digits_any (s : ByteArray) (hz : s.size < 4294967281) (w : World) : Calls Tryz.prog 32 #[.string s] w fun e w' => e = .returned (.int .i64 (lead s.data.toList)) ∧ Below w.heap.size w w' := by
  have hle : lead s.data.toList ≤ s.size := by rw [← size_list s]; exact lead_le _
  have HLT := Lib.hid (lead_lt s.data.toList)
  have HAT := Lib.hid (lead_at s.data.toList)
  generalize lead s.data.toList = n at *
  go_enter Tryz.func32, Tryz.ntmps32
  go_wp2
  go_loopw [3] (fun i wr => ∃ k : Nat, k ≤ n ∧ i = .int .i64 k ∧ wr = w) (fun i _ => n - (intOf i).toNat)
  case atStart => exact ⟨0, Nat.zero_le _, rfl, rfl⟩
  case round =>
    obtain ⟨k, hk, rfl, rfl⟩ := hrel
    by_cases hlt : k < n
    · have hks : k < s.size := by omega
      have hq : (k : Int) < s.size := by omega
      obtain ⟨b, hb, h1, h2⟩ := HLT.out k hlt
      have hbn := byte_nat hks hb
      generalize b.toNat = bn at *
      have h1i : (48 : Int) ≤ bn := by omega
      have h2i : (bn : Int) ≤ 57 := by omega
      clear hb
      go_wp2
      go_roundw
      case rel => exact ⟨k + 1, by omega, by go_num, trivial⟩
      case measure => simp [intOf] <;> omega
    · obtain rfl : k = n := by omega
      by_cases hks : k < s.size
      · have hq : (k : Int) < s.size := by omega
        obtain ⟨b, hb⟩ : ∃ b, s.data.toList[k]? = some b := ⟨_, List.getElem?_eq_getElem (by rw [size_list]; exact hks)⟩
        have hbn := byte_nat hks hb
        have hd := HAT.out b hb
        by_cases h1 : 48 ≤ b.toNat
        · have h2 : ¬ b.toNat ≤ 57 := by
            intro h2; rw [isDig, decide_eq_true h1, decide_eq_true h2] at hd; cases hd
          clear hb hd
          generalize b.toNat = bn at *
          have h1i : (48 : Int) ≤ bn := by omega
          have h2i : ¬ (bn : Int) ≤ 57 := by omega
          go_wp2
          exact bodyPost_ret (v := .int .i64 k) (by simp [results, Tryz.results32, go_sem, *]) rfl ⟨rfl, Below.refl _ _⟩
        · clear hb hd
          generalize b.toNat = bn at *
          have h1i : ¬ (48 : Int) ≤ bn := by omega
          go_wp2
          exact bodyPost_ret (v := .int .i64 k) (by simp [results, Tryz.results32, go_sem, *]) rfl ⟨rfl, Below.refl _ _⟩
      · have hq : ¬ (k : Int) < s.size := by omega
        go_wp2
        exact bodyPost_ret (v := .int .i64 k) (by simp [results, Tryz.results32, go_sem, *]) rfl ⟨rfl, Below.refl _ _⟩
end Go.Proofs.YtajccjbigcdkbaaGreatDoor
namespace Go.Proofs.YtajccjbigcdkbaaGreatDoor
open Go.ChangeShapes Go.WideShapes Go.ChangeAt Go.RowKit
def tenB : ByteArray := ⟨#[48, 49, 50, 51, 52, 53, 54, 55, 56, 57]⟩
theorem ten_at (k : Nat) (hk : k < 10) : tenB.extract k (k + 1) = dig (k : Int) := by
  match k, hk with
  | 0, _ => decide +kernel
  | 1, _ => decide +kernel
  | 2, _ => decide +kernel
  | 3, _ => decide +kernel
  | 4, _ => decide +kernel
  | 5, _ => decide +kernel
  | 6, _ => decide +kernel
  | 7, _ => decide +kernel
  | 8, _ => decide +kernel
  | 9, _ => decide +kernel
theorem dig_nat (n : Nat) : (dig (n : Int)).data.toList = Lib.decDigits n := by
  show (Lib.itoa (n : Int)).toArray.toList = _
  rw [itoa_nat _ (by omega)]; simp
theorem dig_rec (n : Nat) (h : ¬ n < 10) : dig (n : Int) = dig ((n / 10 : Nat) : Int) ++ dig ((n % 10 : Nat) : Int) := by
  refine bytes_inj ?_
  rw [ByteArray.data_append, Array.toList_append, dig_nat, dig_nat, dig_nat, dec_rec n h]
  congr 1
  rw [Lib.decDigits, dif_pos (Nat.mod_lt _ (by decide))]
set_option maxRecDepth 20000 in
theorem decimal_any : ∀ (n : Nat), n < 4611686018427387904 → ∀ w : World, Calls Tryz.prog 30 #[.int .i64 n] w fun e w' => e = .returned (.string (dig n)) ∧ w' = w := by
  intro n
  induction n using Nat.strongRecOn with
  | ind n ih =>
    intro hn w
    by_cases h : n < 10
    · have hI : (n : Int) < 10 := by omega
      have HT := Lib.hid (ten_at n h)
      go_enter Tryz.func30, Tryz.ntmps30
      go_wp2
      exact bodyPost_ret (v := .string (tenB.extract n (n + 1))) (by simp [results, Tryz.results30, go_sem, *, tenB]) rfl ⟨by rw [HT.out], rfl⟩
    · have hI : ¬ (n : Int) < 10 := by omega
      have h1 : ∀ p : Int, 0 ≤ p → p < n → ∀ w, Calls Tryz.prog 30 #[.int .i64 p] w fun e w' => e = .returned (.string (dig p)) ∧ w' = w := fun p hp hl w => by
        have := ih p.toNat (by omega) (by omega) w
        rwa [Int.toNat_of_nonneg hp] at this
      have hr := dig_rec n h
      rw [show ((n / 10 : Nat) : Int) = (n : Int) / 10 by omega, show ((n % 10 : Nat) : Int) = (n : Int) % 10 by omega] at hr
      obtain ⟨p, hp⟩ : ∃ p : Int, (n : Int) / 10 = p := ⟨_, rfl⟩
      obtain ⟨q, hq⟩ : ∃ q : Int, (n : Int) % 10 = q := ⟨_, rfl⟩
      have hh : ∀ x : Int, (x = p ∨ x = q) → ∀ w, Calls Tryz.prog 30 #[.int .i64 x] w fun e w' => e = .returned (.string (dig x)) ∧ w' = w := fun x hx => h1 x (by omega) (by omega)
      have HH := Lib.hid hh; clear hh
      have hp1 := dig_size (n := p) ⟨by omega, by omega⟩
      have hp2 := dig_size (n := q) ⟨by omega, by omega⟩
      have hpz : ¬ 9223372036854775807 < (dig p).size + (dig q).size := by omega
      rw [hp, hq] at hr
      have HR := Lib.hid hr
      clear h1 ih hr
      go_enter Tryz.func30, Tryz.ntmps30
      go_wp2_with (go_at_call 30; refine (HH.out _ (by simp) _).mono ?_; rintro e w1 ⟨rfl, rfl⟩)
      exact bodyPost_ret (v := .string (dig p ++ dig q)) (by simp [results, Tryz.results30, go_sem, *]) rfl ⟨by rw [HR.out], rfl⟩
end Go.Proofs.YtajccjbigcdkbaaGreatDoor
namespace Go.Proofs.YtajccjbigcdkbaaGreatDoor
open Go.ChangeShapes Go.WideShapes Go.ChangeAt Go.RowKit
/-- The number that digits give. -/
def valB (l : List UInt8) : Nat := l.foldl (fun v b => 10 * v + (b.toNat - 48)) 0
theorem val_snoc (l : List UInt8) (b : UInt8) : valB (l ++ [b]) = 10 * valB l + (b.toNat - 48) := by simp [valB]
theorem val_lt : ∀ n (l : List UInt8), l.length = n → (∀ b ∈ l, 48 ≤ b.toNat ∧ b.toNat ≤ 57) → valB l < 10 ^ n := by
  intro n
  induction n with
  | zero => intro l h _; rw [List.length_eq_zero_iff.1 h]; decide
  | succ n ih =>
    intro l h hd
    obtain ⟨m, b, rfl⟩ : ∃ m b, l = m ++ [b] := by
      have hne : l ≠ [] := by rintro rfl; simp at h
      exact ⟨l.dropLast, l.getLast hne, (List.dropLast_concat_getLast hne).symm⟩
    rw [val_snoc]
    have h1 := ih m (by simpa using h) (fun c hc => hd c (by simp [hc]))
    have h2 := hd b (by simp)
    rw [Nat.pow_succ]; omega
theorem val_dec (n : Nat) : valB (Lib.decDigits n) = n := by
  induction n using Nat.strongRecOn with
  | ind n ih =>
    by_cases h : n < 10
    · rw [Lib.decDigits, dif_pos h]
      show 10 * 0 + ((UInt8.ofNat (48 + n)).toNat - 48) = n
      rw [digit_nat n h]; omega
    · rw [dec_rec n h, val_snoc, ih (n / 10) (by omega), digit_nat _ (Nat.mod_lt _ (by decide))]; omega
theorem dec_len : ∀ k n : Nat, 1 ≤ k → n < 10 ^ k → (Lib.decDigits n).length ≤ k := by
  intro k
  induction k with
  | zero => intro n h; omega
  | succ k ih =>
    intro n _ hn
    by_cases h : n < 10
    · rw [Lib.decDigits, dif_pos h]; simp
    · rw [dec_rec n h, List.length_append, List.length_singleton]
      rcases Nat.eq_zero_or_pos k with rfl | hk
      · omega
      · have := ih (n / 10) hk (by rw [Nat.pow_succ] at hn; omega)
        omega
/-- The first four numbers of 1 to 13 digits. -/
def scanM (l : List UInt8) (ns : List Int) : List Int :=
  if h : l = [] ∨ 4 ≤ ns.length then ns
  else if lead l = 0 ∨ 13 < lead l then scanM (l.drop 1) ns
  else scanM (l.drop (lead l + 1)) (ns ++ [(valB (l.take (lead l)) : Int)])
termination_by l.length
decreasing_by
  all_goals
    have : l.length ≠ 0 := fun e => h (.inl (List.length_eq_zero_iff.1 e))
    simp only [List.length_drop]
    omega
theorem scan_end {l : List UInt8} {ns : List Int} (h : l = [] ∨ 4 ≤ ns.length) : scanM l ns = ns := by rw [scanM, dif_pos h]
theorem scan_next {l : List UInt8} {ns : List Int} (h : ¬ (l = [] ∨ 4 ≤ ns.length)) (h2 : lead l = 0 ∨ 13 < lead l) : scanM l ns = scanM (l.drop 1) ns := by rw [scanM, dif_neg h, if_pos h2]
theorem scan_more {l : List UInt8} {ns : List Int} (h : ¬ (l = [] ∨ 4 ≤ ns.length)) (h2 : ¬ (lead l = 0 ∨ 13 < lead l)) : scanM l ns = scanM (l.drop (lead l + 1)) (ns ++ [(valB (l.take (lead l)) : Int)]) := by rw [scanM, dif_neg h, if_neg h2]
theorem lead_cons {b : UInt8} {l : List UInt8} (h : isDig b = false) : lead (b :: l) = 0 := by
  unfold lead; rw [List.takeWhile_cons, if_neg (by simp [h])]; rfl
theorem lead_all : ∀ (ds : List UInt8) (r : List UInt8), (∀ b ∈ ds, isDig b = true) → lead r = 0 → lead (ds ++ r) = ds.length
  | [], r, _, h => by simpa using h
  | b :: ds, r, hd, h => by
    have ih := lead_all ds r (fun c hc => hd c (List.mem_cons_of_mem _ hc)) h
    unfold lead at ih ⊢
    rw [List.cons_append, List.takeWhile_cons, if_pos (hd b (List.mem_cons_self ..)), List.length_cons, ih, List.length_cons]
theorem scan_skips : ∀ (pre r : List UInt8) (ns : List Int), ns.length < 4 → (∀ b ∈ pre, isDig b = false) → scanM (pre ++ r) ns = scanM r ns
  | [], r, ns, _, _ => rfl
  | b :: pre, r, ns, hn, hd => by
    rw [List.cons_append, scan_next (by simp; omega) (.inl (lead_cons (hd b (List.mem_cons_self ..)))), List.drop_succ_cons, List.drop_zero]
    exact scan_skips pre r ns hn fun c hc => hd c (List.mem_cons_of_mem _ hc)
theorem scan_num (ds r : List UInt8) (ns : List Int) (hn : ns.length < 4) (h1 : 1 ≤ ds.length) (h2 : ds.length ≤ 13) (hd : ∀ b ∈ ds, isDig b = true) (hr : lead r = 0) : scanM (ds ++ r) ns = scanM (r.drop 1) (ns ++ [(valB ds : Int)]) := by
  have hl := lead_all ds r hd hr
  have hne : ds ++ r ≠ [] := by intro e; rw [List.append_eq_nil_iff] at e; rw [e.1] at h1; simp at h1
  rw [scan_more (by rintro (h | h); exact hne h; omega) (by omega), hl, List.take_left' rfl]
  congr 1
  rw [List.drop_append, List.drop_of_length_le (by omega), show ds.length + 1 - ds.length = 1 by omega]; rfl
theorem dig_all {x : Int} (h0 : 0 ≤ x) (h1 : x ≤ 1099511627776) : 1 ≤ (Lib.itoa x).length ∧ (Lib.itoa x).length ≤ 13 ∧ (∀ b ∈ Lib.itoa x, isDig b = true) ∧ (valB (Lib.itoa x) : Int) = x := by
  rw [itoa_nat x h0]
  refine ⟨?_, dec_len 13 _ (by decide) (by omega), fun b hb => ?_, by rw [val_dec]; omega⟩
  · have := dec_ne x.toNat
    cases hl : Lib.decDigits x.toNat with
    | nil => exact absurd hl this
    | cons => simp
  · have := dec_digit _ b hb
    simp [isDig, this]
theorem wd_no (i : Nat) (hi : i < 4) : ∀ b ∈ (wd i).data.toList ++ [32], isDig b = false := by
  match i, hi with
  | 0, _ => decide
  | 1, _ => decide
  | 2, _ => decide
  | 3, _ => decide
theorem scan_word (i : Nat) (hi : i < 4) (r : List UInt8) (ns : List Int) (hn : ns.length < 4) : scanM ((wd i).data.toList ++ 32 :: r) ns = scanM r ns := by
  have := scan_skips ((wd i).data.toList ++ [32]) r ns hn (wd_no i hi)
  rwa [List.append_assoc] at this
theorem lead_comma (r : List UInt8) : lead (44 :: r) = 0 := lead_cons rfl
theorem scan_text (c : Co) (h : plainB c = true) : scanM (textM c).data.toList [] = [c.a, c.b, c.c, c.d] := by
  obtain ⟨ha, hb, hc, hd⟩ := plain_in h
  obtain ⟨a1, a2, a3, a4⟩ := dig_all ha.1 ha.2
  obtain ⟨b1, b2, b3, b4⟩ := dig_all hb.1 hb.2
  obtain ⟨c1, c2, c3, c4⟩ := dig_all hc.1 hc.2
  obtain ⟨d1, d2, d3, d4⟩ := dig_all hd.1 hd.2
  have sp : ∀ (r : List UInt8) (ns : List Int), ns.length < 4 → scanM (32 :: r) ns = scanM r ns := fun r ns hn => scan_skips [32] r ns hn (by decide)
  rw [text_data, tx_data, tx_data, tx_data, tx_data]
  simp only [List.append_assoc, List.cons_append]
  rw [scan_word 0 (by decide) _ _ (by simp), scan_num _ _ _ (by simp) a1 a2 a3 (lead_comma _), List.drop_succ_cons, List.drop_zero, sp _ _ (by simp)]
  rw [scan_word 1 (by decide) _ _ (by simp), scan_num _ _ _ (by simp) b1 b2 b3 (lead_comma _), List.drop_succ_cons, List.drop_zero, sp _ _ (by simp)]
  rw [scan_word 2 (by decide) _ _ (by simp), scan_num _ _ _ (by simp) c1 c2 c3 (lead_comma _), List.drop_succ_cons, List.drop_zero, sp _ _ (by simp)]
  rw [scan_word 3 (by decide) _ _ (by simp)]
  have := scan_num (Lib.itoa c.d) [] ((([] ++ [(valB (Lib.itoa c.a) : Int)]) ++ [(valB (Lib.itoa c.b) : Int)]) ++ [(valB (Lib.itoa c.c) : Int)]) (by simp) d1 d2 d3 rfl
  rw [List.append_nil] at this
  rw [this, scan_end (.inl (by simp)), a4, b4, c4, d4]
  simp
/-- The cost of the numbers found. -/
def numC (ns : List Int) : Co := ⟨ns.getD 0 0, ns.getD 1 0, ns.getD 2 0, ns.getD 3 0⟩
theorem num_set (ns : List Int) (h : ns.length < 4) (v : Int) : (coc (numC ns)).setIfInBounds ns.length (.int .i64 v) = coc (numC (ns ++ [v])) := by
  match ns, h with
  | [], _ => rfl
  | [a], _ => rfl
  | [a, b], _ => rfl
  | [a, b, c], _ => rfl
theorem in_short {s : ByteArray} (h : (scanM s.data.toList []).length < 4) : parseM s = none := by
  cases hp : parseM s with
  | none => rfl
  | some c =>
    obtain ⟨h1, h2⟩ := parse_sound hp
    rw [← h1, scan_text c h2] at h
    simp at h
theorem in_some {s : ByteArray} {c : Co} (hp : parseM s = some c) : numC (scanM s.data.toList []) = c ∧ textM c = s ∧ plainB c = true := by
  obtain ⟨h1, h2⟩ := parse_sound hp
  refine ⟨?_, h1, h2⟩
  rw [← h1, scan_text c h2]; rfl
theorem in_not {s : ByteArray} (h : okM (numC (scanM s.data.toList [])) s = false) : parseM s = none := by
  cases hp : parseM s with
  | none => rfl
  | some c =>
    obtain ⟨h1, h2, h3⟩ := in_some hp
    rw [h1, ← h2, okM_text c h3] at h; cases h
theorem in_same {s : ByteArray} (h : okM (numC (scanM s.data.toList [])) s = true) : parseM s = some (numC (scanM s.data.toList [])) := by
  generalize numC (scanM s.data.toList []) = c at *
  unfold okM at h
  simp only [Bool.and_eq_true, beq_iff_eq] at h
  have e : textM c = s := bytes_inj (by have := h.2; rwa [ByteArray.toList_eq, ByteArray.toList_eq] at this)
  rw [← e]; exact parse_text c h.1
end Go.Proofs.YtajccjbigcdkbaaGreatDoor
namespace Go.Proofs.YtajccjbigcdkbaaGreatDoor
open Go.ChangeShapes Go.WideShapes Go.ChangeAt Go.RowKit
theorem odd_none (s : ByteArray) (hg : ∀ (i : Nat) (h : i < s.size), 33 ≤ (s[i]'h).toNat ∧ (s[i]'h).toNat ≤ 126) : ∀ f pos : Nat, Lib.idxFuncFrom oddP true s f pos = -1
  | 0, _ => rfl
  | f + 1, pos => by
    unfold Lib.idxFuncFrom
    split
    · rename_i hp
      have hb := hg pos hp
      have ho : oddP (s[pos]'hp).toNat = false := by unfold oddP; simp; omega
      rw [decode_ascii s pos hp (by omega), ho, if_neg (by decide)]
      exact odd_none s hg f _
    · rfl
theorem odd_some (s : ByteArray) (i : Nat) (hi : i < s.size) (hb : ¬ (33 ≤ (s[i]'hi).toNat ∧ (s[i]'hi).toNat ≤ 126)) : ∀ f pos : Nat, pos ≤ i → i < pos + f → 0 ≤ Lib.idxFuncFrom oddP true s f pos
  | 0, pos, h1, h2 => by omega
  | f + 1, pos, h1, h2 => by
    unfold Lib.idxFuncFrom
    have hp : pos < s.size := by omega
    rw [if_pos hp]
    split
    · omega
    · rename_i hn
      by_cases h7 : (s[pos]'hp).toNat < 128
      · rw [decode_ascii s pos hp h7] at hn ⊢
        have hne : pos ≠ i := by
          rintro rfl
          exact hn (by unfold oddP; simp; omega)
        exact odd_some s i hi hb f (pos + 1) (by omega) (by omega)
      · have := decode_high s pos hp (by omega)
        exact absurd (by unfold oddP; simp; omega) hn
theorem named_bad {s : ByteArray} (i : Nat) (hi : i < s.size) (hb : ¬ (33 ≤ (s[i]'hi).toNat ∧ (s[i]'hi).toNat ≤ 126)) : namedB s = false := by
  have : oddIn s = true := by
    unfold oddIn Lib.idxFunc
    exact decide_eq_true (odd_some s i hi hb s.size 0 (by omega) (by omega))
  unfold namedB; rw [this]; simp
theorem named_good {s : ByteArray} (hg : ∀ (i : Nat) (h : i < s.size), 33 ≤ (s[i]'h).toNat ∧ (s[i]'h).toNat ≤ 126) : namedB s = (decide (1 ≤ s.size) && decide (s.size ≤ 40)) := by
  have : oddIn s = false := by
    unfold oddIn Lib.idxFunc
    rw [odd_none s hg]; rfl
  unfold namedB; rw [this]; simp
set_option maxRecDepth 20000 in
set_option maxHeartbeats 2000000 in
theorem name_any (s : ByteArray) (hz : s.size ≤ 9223372036854775807) (w : World) : Calls Tryz.prog 35 #[.string s] w fun e w' => e = .returned (.bool (namedB s)) ∧ Below w.heap.size w w' := by
  have HB := Lib.hid (fun i hi hb => named_bad (s := s) i hi hb)
  have HG := Lib.hid (fun hg => named_good (s := s) hg)
  generalize namedB s = r at *
  go_enter Tryz.func35, Tryz.ntmps35
  go_wp2
  go_loopw [3] (fun i wr => ∃ k : Nat, k ≤ s.size ∧ i = .int .i64 k ∧ Hid (∀ (i : Nat) (h : i < s.size), i < k → 33 ≤ (s[i]'h).toNat ∧ (s[i]'h).toNat ≤ 126) ∧ wr = w) (fun i _ => s.size - (intOf i).toNat)
  case atStart => exact ⟨0, Nat.zero_le _, rfl, Lib.hid (fun i h h0 => absurd h0 (Nat.not_lt_zero _)), rfl⟩
  case round =>
    obtain ⟨k, hk, rfl, hall, rfl⟩ := hrel
    by_cases hlt : k < s.size
    · have hq : (k : Int) < s.size := by omega
      have HBk := Lib.hid (HB.out k hlt)
      have hnext : 33 ≤ (s[k]'hlt).toNat ∧ (s[k]'hlt).toNat ≤ 126 → ∀ (i : Nat) (h : i < s.size), i < k + 1 → 33 ≤ (s[i]'h).toNat ∧ (s[i]'h).toNat ≤ 126 := fun hh i h hi => by
        by_cases e : i < k
        · exact hall.out i h e
        · obtain rfl : i = k := by omega
          exact hh
      have HN := Lib.hid hnext; clear hnext
      obtain ⟨b, hb⟩ : ∃ b : Nat, (s[k]'hlt).toNat = b := ⟨_, rfl⟩
      rw [hb] at HBk HN
      by_cases h1 : 33 ≤ b
      · have h1i : ¬ (b : Int) < 33 := by omega
        by_cases h2 : b ≤ 126
        · have h2i : ¬ (126 : Int) < b := by omega
          have HN2 := Lib.hid (HN.out ⟨h1, h2⟩)
          go_wp2
          go_roundw
          case rel => exact ⟨k + 1, by omega, by go_num, HN2, trivial⟩
          case measure => simp [intOf] <;> omega
        · have h2i : (126 : Int) < b := by omega
          have HF := Lib.hid (HBk.out (fun h => h2 h.2))
          go_wp2
          exact bodyPost_ret (v := .bool false) (by simp [results, Tryz.results35, go_sem, *]) rfl ⟨by rw [HF.out], Below.refl _ _⟩
      · have h1i : (b : Int) < 33 := by omega
        have HF := Lib.hid (HBk.out (fun h => h1 h.1))
        go_wp2
        exact bodyPost_ret (v := .bool false) (by simp [results, Tryz.results35, go_sem, *]) rfl ⟨by rw [HF.out], Below.refl _ _⟩
    · obtain rfl : k = s.size := by omega
      have hq : ¬ (s.size : Int) < s.size := by omega
      have hr := HG.out (fun i h => hall.out i h h)
      have HR := Lib.hid hr; clear hr hall HB HG
      by_cases h1 : 1 ≤ s.size
      · have h1i : (1 : Int) ≤ s.size := by omega
        by_cases h2 : s.size ≤ 40
        · have h2i : (s.size : Int) ≤ 40 := by omega
          have HRR := Lib.hid (show r = true by rw [HR.out]; simp [h1, h2])
          clear HR
          go_wp2
          exact bodyPost_ret (v := .bool true) (by simp [results, Tryz.results35, go_sem, *]) rfl ⟨by rw [HRR.out], Below.refl _ _⟩
        · have h2i : ¬ (s.size : Int) ≤ 40 := by omega
          have HRR := Lib.hid (show r = false by rw [HR.out]; simp [h2])
          clear HR
          go_wp2
          exact bodyPost_ret (v := .bool false) (by simp [results, Tryz.results35, go_sem, *]) rfl ⟨by rw [HRR.out], Below.refl _ _⟩
      · have h1i : ¬ (1 : Int) ≤ s.size := by omega
        have HRR := Lib.hid (show r = false by rw [HR.out]; simp; omega)
        clear HR
        go_wp2
        exact bodyPost_ret (v := .bool false) (by simp [results, Tryz.results35, go_sem, *]) rfl ⟨by rw [HRR.out], Below.refl _ _⟩
end Go.Proofs.YtajccjbigcdkbaaGreatDoor
