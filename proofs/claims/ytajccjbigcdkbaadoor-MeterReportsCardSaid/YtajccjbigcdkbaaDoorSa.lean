/- The last word of a line. -/
import Derived.Test.YtajccjbigcdkbaaDoorMz
import Derived.Test.YtajccjbigcdkbaaDoorPa
-- USEBDN
set_option linter.unusedSimpArgs false
set_option linter.unusedVariables false
namespace Go.Proofs.YtajccjbigcdkbaaDoor
open Go.ChangeShapes Go.WideShapes Go.ChangeAt Go.RowKit
theorem byte_at {s : ByteArray} {l : List UInt8} (hs : s.data.toList = l) {i : Nat} (h : i < s.size) {b : UInt8} (hb : l[i]? = some b) : s[i] = b := by
  subst hs
  rw [Array.getElem?_toList, Array.getElem?_eq_getElem h] at hb
  exact Option.some.inj hb
theorem extract_list (s : ByteArray) (a b : Nat) : (s.extract a b).data.toList = (s.data.toList.take b).drop a := by
  rw [ByteArray.data_extract, Array.toList_extract, List.extract_eq_take_drop, List.drop_take]
theorem last_val {s : ByteArray} {pre suf : List UInt8} (hs : s.data.toList = pre ++ 32 :: suf) (hlen : s.size = pre.length + 1 + suf.length) : s.extract (pre.length + 1) s.size = ⟨suf.toArray⟩ := by
  refine bytes_inj ?_
  rw [extract_list, hs, List.take_of_length_le (by simp; omega)]
  rw [show pre ++ 32 :: suf = (pre ++ [32]) ++ suf by simp, List.drop_left' (by simp)]
set_option maxRecDepth 20000 in
set_option maxHeartbeats 1000000 in
theorem last_any (s : ByteArray) (pre suf : List UInt8) (hs : s.data.toList = pre ++ 32 :: suf) (hsuf : ∀ b ∈ suf, b ≠ 32) (hz : s.size < 4294967281) (w : World) :
    Calls Tryd.prog 16 #[.string s] w fun e w' => e = .returned (.string ⟨suf.toArray⟩) ∧ Below w.heap.size w w' := by
  have hlen : s.size = pre.length + 1 + suf.length := by
    have : s.size = s.data.toList.length := by rw [Array.length_toList]; rfl
    rw [this, hs]; simp; omega
  have HS := Lib.hid hs; clear hs
  have HF := Lib.hid hsuf; clear hsuf
  have HL := Lib.hid hlen
  have hp : pre.length + 1 ≤ s.size := by omega
  clear hlen
  go_enter Tryd.func16, Tryd.ntmps16
  go_wp2
  go_loopw [3] (fun i wr => ∃ k : Nat, pre.length + 1 ≤ k ∧ k ≤ s.size ∧ i = .int .i64 k ∧ wr = w) (fun i _ => (intOf i).toNat)
  case atStart => exact ⟨s.size, hp, Nat.le_refl _, rfl, rfl⟩
  case round =>
    obtain ⟨k, hk0, hk, rfl, rfl⟩ := hrel
    have hk9 : k - 1 < s.size := by omega
    by_cases hlt : pre.length + 1 < k
    · have ht : (((s[k - 1]'hk9).toNat : Int) != 32) = true := by
        have hl := HL.out
        have hi : (pre ++ 32 :: suf)[k - 1]? = some (suf[k - 2 - pre.length]'(by omega)) := by
          rw [List.getElem?_append_right (by omega), show k - 1 - pre.length = (k - 2 - pre.length) + 1 by omega, List.getElem?_cons_succ, List.getElem?_eq_getElem]
        rw [byte_at HS.out hk9 hi]
        have hn := HF.out _ (List.getElem_mem (h := show k - 2 - pre.length < suf.length by omega))
        simp only [bne_iff_ne, ne_eq]
        intro e
        exact hn (UInt8.toNat_inj.1 (by simpa using (by exact_mod_cast e : (suf[k - 2 - pre.length]'(by omega)).toNat = 32)))
      go_wp2
      go_roundw
      case rel => exact ⟨k - 1, by omega, by omega, by go_num, trivial⟩
      case measure => simp [intOf]; omega
    · obtain rfl : k = pre.length + 1 := by omega
      have hk8 : pre.length < s.size := by omega
      have ht : (((s[pre.length]'hk8).toNat : Int) != 32) = false := by
        have hi : (pre ++ 32 :: suf)[pre.length]? = some 32 := by
          rw [List.getElem?_append_right (by omega), show pre.length - pre.length = 0 by omega]; rfl
        rw [byte_at HS.out hk8 hi]; rfl
      go_wp2
      exact bodyPost_ret (v := .string (s.extract (pre.length + 1) s.size)) (by simp [results, Tryd.results16, go_sem, *]) rfl ⟨by rw [last_val HS.out HL.out], Below.refl _ _⟩
end Go.Proofs.YtajccjbigcdkbaaDoor
