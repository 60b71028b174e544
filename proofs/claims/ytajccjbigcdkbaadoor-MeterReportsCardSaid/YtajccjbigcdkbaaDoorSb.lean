/- The lines of a text. -/
import Derived.Test.YtajccjbigcdkbaaDoorSa
-- USEBDN
set_option linter.unusedSimpArgs false
set_option linter.unusedVariables false
namespace Go.Proofs.YtajccjbigcdkbaaDoor
open Go.ChangeShapes Go.WideShapes Go.ChangeAt Go.RowKit
/-- Lines, each ended by a line feed. -/
def flat (ls : List ByteArray) : List UInt8 := ls.flatMap fun l => l.data.toList ++ [10]
theorem flat_append (a b : List ByteArray) : flat (a ++ b) = flat a ++ flat b := by simp [flat]
theorem flat_cons (l : ByteArray) (b : List ByteArray) : flat (l :: b) = l.data.toList ++ 10 :: flat b := by simp [flat]
theorem size_list (l : ByteArray) : l.data.toList.length = l.size := by rw [Array.length_toList]; rfl
theorem flat_len (ls : List ByteArray) : ls.length ≤ (flat ls).length := by
  induction ls with
  | nil => simp
  | cons l r ih => rw [flat_cons]; simp; omega
set_option maxRecDepth 20000 in
set_option maxHeartbeats 2000000 in
theorem lines_any (s : ByteArray) (ls : List ByteArray) (hs : s.data.toList = flat ls) (hno : ∀ l ∈ ls, ∀ b ∈ l.data.toList, b ≠ 10) (hz : s.size < 4294967281) (w : World) :
    Calls Tryd.prog 15 #[.string s] w fun e w' => ∃ v, e = .returned v ∧ w'.ownsRow w.heap.size 9 1 v ls.length (ls.map Value.string) ∧ Below w.heap.size w w' := by
  have hsz : s.size = (flat ls).length := by rw [← size_list, hs]
  have hll := flat_len ls
  have HS := Lib.hid hs; clear hs
  have HNO := Lib.hid hno; clear hno
  have HSZ := Lib.hid hsz
  have HLL := Lib.hid hll
  clear hll hsz
  go_enter Tryd.func15, Tryd.ntmps15
  go_wp2
  go_loopw [3, 4, 5] (fun out fr i wr => ∃ (pre post : List ByteArray) (m n j : Nat), ls = pre ++ post ∧ m = (flat pre).length ∧ n = m + j ∧ fr = .int .i64 m ∧ i = .int .i64 n ∧ Hid ((∀ l r, post = l :: r → j ≤ l.size) ∧ (post = [] → j = 0)) ∧ Hid (wr.ownsRow w.heap.size 9 1 out pre.length (pre.map Value.string)) ∧ Below w.heap.size w wr ∧ w.heap.size ≤ wr.heap.size) (fun _ _ i _ => s.size - (intOf i).toNat)
  case atStart =>
    refine ⟨[], ls, 0, 0, 0, rfl, rfl, rfl, rfl, rfl, Lib.hid ⟨fun _ _ _ => Nat.zero_le _, fun _ => rfl⟩, Lib.hid ?_, by (repeat' (first | (with_reducible exact Below.refl _ _) | (with_reducible assumption) | (with_reducible refine Below.alloc ?_ ?_ _) | (with_reducible refine Below.drew ?_) | (with_reducible refine bdn ?_ _) | (with_reducible refine Below.setCell ?_ ?_ _) | go_size)), by go_size⟩
    have := own_one w #[] 0 (by unfold maxLen; omega) rfl w.heap.size 9 (Nat.le_refl _)
    exact this
  case round =>
    obtain ⟨pre, post, m, n, j, hls, hm, hn, rfl, rfl, hj, hown, hbel, hbig⟩ := hrel
    cases post with
    | nil =>
      have hj0 := hj.out.2 rfl
      have hns : n = s.size := by rw [hn, hj0, hm, HSZ.out, hls]; simp
      have hq : ¬ (n : Int) < s.size := by omega
      rw [List.append_nil] at hls
      have HLS := Lib.hid hls; clear hls
      go_wp2
      exact bodyPost_ret (v := u3) (by simp [results, Tryd.results15, go_sem, *]) rfl ⟨u3, rfl, by rw [HLS.out]; exact hown.out, hbel⟩
    | cons l r =>
      have hjl := hj.out.1 l r rfl
      have hlen : s.size = m + l.size + 1 + (flat r).length := by rw [HSZ.out, hls, flat_append, flat_cons, hm]; simp [size_list]; omega
      have hlt : n < s.size := by omega
      have hq : (n : Int) < s.size := by omega
      have hlist : s.data.toList = flat pre ++ (l.data.toList ++ 10 :: flat r) := by rw [HS.out, hls, flat_append, flat_cons]
      have HLIST := Lib.hid hlist; clear hlist
      have HLEN := Lib.hid hlen; clear hlen
      have HLS := Lib.hid hls; clear hls
      have HM := Lib.hid hm; clear hm
      have HN := Lib.hid hn; clear hn
      by_cases hjj : j < l.size
      · have ht : (((s[n]'hlt).toNat : Int) == 10) = false := by
          have hi : (flat pre ++ (l.data.toList ++ 10 :: flat r))[n]? = some (l.data.toList[j]'(by rw [size_list]; exact hjj)) := by
            rw [List.getElem?_append_right (by rw [HN.out, HM.out]; omega), show n - (flat pre).length = j by rw [HN.out, HM.out]; omega, List.getElem?_append_left (by rw [size_list]; exact hjj), List.getElem?_eq_getElem]
          rw [byte_at HLIST.out hlt hi]
          have hne := HNO.out l (by rw [HLS.out]; simp) _ (List.getElem_mem (h := show j < l.data.toList.length by rw [size_list]; exact hjj))
          rw [beq_eq_false_iff_ne]
          intro e
          exact hne (UInt8.toNat_inj.1 (show (l.data.toList[j]'(by rw [size_list]; exact hjj)).toNat = 10 by exact_mod_cast e))
        go_wp2
        go_roundw
        case rel => exact ⟨pre, l :: r, m, n + 1, j + 1, HLS.out, HM.out, by rw [HN.out]; omega, rfl, by go_num, Lib.hid ⟨fun l' r' e => by cases e; omega, fun e => by cases e⟩, hown, hbel, hbig⟩
        case measure => simp [intOf]; omega
      · have hjl2 : j = l.size := by omega
        have ht : (((s[n]'hlt).toNat : Int) == 10) = true := by
          have hi : (flat pre ++ (l.data.toList ++ 10 :: flat r))[n]? = some 10 := by
            rw [List.getElem?_append_right (by rw [HN.out, HM.out]; omega), show n - (flat pre).length = l.data.toList.length by rw [HN.out, HM.out, size_list]; omega, List.getElem?_append_right (Nat.le_refl _), Nat.sub_self]; rfl
          rw [byte_at HLIST.out hlt hi]; rfl
        have hmn : m ≤ n := by have := HN.out; omega
        have hns : n ≤ s.size := by omega
        have hmi : (m : Int) ≤ n := by omega
        have hni : (n : Int) ≤ s.size := by omega
        have hex : s.extract m n = l := by
          refine bytes_inj ?_
          rw [extract_list, HLIST.out, HN.out, hjl2, HM.out, List.take_append, List.take_of_length_le (by omega), show (flat pre).length + l.size - (flat pre).length = l.data.toList.length by rw [size_list]; omega, List.take_left' rfl, List.drop_left' rfl]
        have HEX := Lib.hid hex; clear hex
        obtain ⟨ti, hi9, hz0, hz1, hz2⟩ := info_parts info9
        have hpl : pre.length ≤ 4294967281 := by have h1 := flat_len pre; have := HM.out; omega
        go_wp2_with (at_builtin; refine wpList_append_own _ rfl _ _ 41 rfl w.heap.size 9 ti (.string ⟨#[]⟩) 1 16 Tryd.underlying41 hi9 hz0 hz1 hz2 rfl (by decide) _ _ _ rfl (hown.out.alloc _) ⟨wr.heap.size, 0, none⟩ 1 1 [.string (s.extract m n)] rfl rfl ?c1 ?c2 ?c3 ?c4 ?c5 ?_)
        case c1 =>
          intro j u hj
          match j, hj with
          | 0, hj => simp at hj; subst hj; exact Mild.cell_of_block (Mild.alloc_at wr _) 0
        case c2 => intro y hy; simp at hy; subst hy; rfl
        case c3 => unfold maxLen; omega
        case c4 => omega
        case c5 => simp; omega
        intro v' w2 hown' hgrow _
        have hB2 : Below w.heap.size w w2 := below_grown (hbel.alloc hbig _) hgrow (by simp; omega) (fun k e => (hown.out.lt k e).1)
        have hz2' : w.heap.size ≤ w2.heap.size := hB2.size
        have HO2 := Lib.hid hown'
        clear hown' hgrow hbel hbig
        go_wp2
        go_roundw
        case rel => exact ⟨pre ++ [l], r, n + 1, n + 1, 0, by rw [HLS.out]; simp, by rw [flat_append, flat_cons, HN.out, HM.out]; simp [size_list, flat]; omega, rfl, by go_num, by go_num, Lib.hid ⟨fun _ _ _ => Nat.zero_le _, fun _ => rfl⟩, Lib.hid (by have := HO2.out; rw [HEX.out] at this; simpa using this), hB2, hz2'⟩
        case measure => simp [intOf]; omega
end Go.Proofs.YtajccjbigcdkbaaDoor
