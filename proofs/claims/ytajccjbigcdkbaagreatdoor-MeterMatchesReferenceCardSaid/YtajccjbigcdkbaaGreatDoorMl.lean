/- Parse: whole. -/
import Derived.Test.YtajccjbigcdkbaaGreatDoorMk
import Derived.Lib.AtoiAllCases
import Derived.Lib.SplitLaws
-- USEBDN
set_option linter.unusedSimpArgs false
set_option linter.unusedVariables false
namespace Go.Proofs.YtajccjbigcdkbaaGreatDoor
open Go.ChangeShapes Go.WideShapes Go.ChangeAt Go.RowKit
def sepB : ByteArray := ⟨#[44, 32]⟩
/-- The parts of a text. -/
def partsB (s : ByteArray) : List ByteArray := Lib.splitB sepB 0 (Lib.countB s sepB) s
theorem parts_len (s : ByteArray) : (partsB s).length = Lib.countB s sepB + 1 := Lib.splitB_all sepB (by decide) 0 _ s rfl
theorem extract_le (s : ByteArray) (a b : Nat) : (s.extract a b).size ≤ s.size := by
  rw [ByteArray.size_extract]; omega
theorem splitB_le (sep : ByteArray) : ∀ (k : Nat) (s p : ByteArray), p ∈ Lib.splitB sep 0 k s → p.size ≤ s.size
  | 0, s, p, h => by
    simp only [Lib.splitB_zero, List.mem_singleton] at h
    rw [h]; exact Nat.le_refl _
  | k + 1, s, p, h => by
    unfold Lib.splitB at h
    split at h
    · simp only [List.mem_singleton] at h
      rw [h]; exact Nat.le_refl _
    · rcases List.mem_cons.1 h with h | h
      · rw [h]; exact extract_le _ _ _
      · exact Nat.le_trans (splitB_le sep k _ p h) (extract_le _ _ _)
theorem split_any (s : ByteArray) (hs : s.size < 4294967281) (w : World) (ht : Tabs w) : Calls Tryz.prog 42 #[.string s, .string ⟨#[44, 32]⟩] w fun e w' => e = .returned (.slice (some ⟨w.heap.size, 0, none⟩) (partsB s).length (partsB s).length) ∧ w' = w.alloc (.cells ((partsB s).map Value.string).toArray 9) := by
  obtain ⟨m, hm⟩ := ht.mx
  rw [parts_len]
  exact Tryz.strings_Split s ⟨#[44, 32]⟩ m w hs hm (by decide)
def numB (p : ByteArray) : Option Int := match Lib.atoiAll (digsB p).data.toList with | .ok v => some v | _ => none
theorem num_ok {p : ByteArray} {v : Int} (h : Lib.atoiAll (digsB p).data.toList = .ok v) : numB p = some v := by unfold numB; rw [h]
theorem num_bad {p : ByteArray} (h : ∀ v, Lib.atoiAll (digsB p).data.toList ≠ .ok v) : numB p = none := by
  unfold numB
  split
  · rename_i v hv; exact absurd hv (h v)
  · rfl
def parseL : List ByteArray → Option Co
  | [p, q, r, t] => match numB p, numB q, numB r, numB t with
    | some a, some b, some c, some d => some ⟨a, b, c, d⟩
    | _, _, _, _ => none
  | _ => none
def okM (c : Co) (s : ByteArray) : Bool := plainB c && ((textM c).toList == s.toList)
def parseM (s : ByteArray) : Option Co := match parseL (partsB s) with
  | some c => if okM c s = true then some c else none
  | none => none
def parseC (s : ByteArray) : Co := (parseM s).getD zeroM
def parseE (s : ByteArray) : Int := match parseM s with | some _ => 0 | none => 3
theorem parse_none {s : ByteArray} (h : parseM s = none) : parseC s = zeroM ∧ parseE s = 3 := by unfold parseC parseE; rw [h]; exact ⟨rfl, rfl⟩
theorem parse_some {s : ByteArray} {c : Co} (h : parseM s = some c) : parseC s = c ∧ parseE s = 0 := by unfold parseC parseE; rw [h]; exact ⟨rfl, rfl⟩
theorem bad_len {s : ByteArray} (h : (partsB s).length ≠ 4) : parseM s = none := by
  unfold parseM
  have : parseL (partsB s) = none := by
    unfold parseL
    split
    · rename_i h'; rw [h'] at h; exact absurd rfl h
    · rfl
  rw [this]
theorem bad_num {s p q r t : ByteArray} (hl : partsB s = [p, q, r, t]) (h : numB p = none ∨ numB q = none ∨ numB r = none ∨ numB t = none) : parseM s = none := by
  unfold parseM
  have : parseL (partsB s) = none := by
    rw [hl]; unfold parseL
    rcases h with h | h | h | h <;> (cases hp : numB p <;> cases hq : numB q <;> cases hr : numB r <;> cases ht : numB t <;> simp_all)
  rw [this]
theorem good_num {s p q r t : ByteArray} {a b c d : Int} (hl : partsB s = [p, q, r, t]) (h1 : numB p = some a) (h2 : numB q = some b) (h3 : numB r = some c) (h4 : numB t = some d) : parseM s = if okM ⟨a, b, c, d⟩ s = true then some ⟨a, b, c, d⟩ else none := by
  unfold parseM
  have : parseL (partsB s) = some ⟨a, b, c, d⟩ := by
    rw [hl]; unfold parseL
    simp only [h1, h2, h3, h4]
  rw [this]
theorem ret_pe {s : ByteArray} {c : Co} {e : Int} (h1 : parseC s = c) (h2 : parseE s = e) : Ending.returned (.tuple #[cov c, .int .i64 e]) = .returned (.tuple #[cov (parseC s), .int .i64 (parseE s)]) := by rw [h1, h2]
end Go.Proofs.YtajccjbigcdkbaaGreatDoor
