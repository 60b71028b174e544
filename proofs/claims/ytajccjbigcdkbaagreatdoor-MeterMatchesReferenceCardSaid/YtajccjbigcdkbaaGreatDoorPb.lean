/- What the examples answer. -/
import Derived.Test.YtajccjbigcdkbaaGreatDoorPa
import Derived.Test.YtajccjbigcdkbaaGreatDoorMw
set_option linter.unusedSimpArgs false
set_option linter.unusedVariables false
namespace Go.Proofs.YtajccjbigcdkbaaGreatDoor
open Go.Lib
def exC : Co := ⟨12, 3, 4, 0⟩
def exD : Co := ⟨5, 0, 10, 1⟩
def exE : Co := ⟨100, 2, 3, 4⟩
def exT : ByteArray := ⟨#[105, 115, 115, 117, 101, 115, 32, 49, 50, 44, 32, 115, 99, 97, 108, 97, 114, 115, 32, 51, 44, 32, 109, 111, 118, 101, 115, 32, 52, 44, 32, 109, 97, 115, 107, 101, 100, 32, 48]⟩
def exW : ByteArray := ⟨List.toArray (110 :: 97 :: 109 :: 101 :: 32 :: 32 :: 32 :: 105 :: 115 :: 115 :: 117 :: 101 :: 115 :: 32 :: 32 :: 115 :: 99 :: 97 :: 108 :: 97 :: 114 :: 115 :: 32 :: 32 :: 109 :: 111 :: 118 :: 101 :: 115 :: 32 :: 32 :: 109 :: 97 :: 115 :: 107 :: 101 :: 100 :: 10 :: 97 :: 32 :: 32 :: 32 :: 32 :: 32 :: 32 :: 32 :: 32 :: 32 :: 32 :: 32 :: 53 :: 32 :: 32 :: 32 :: 32 :: 32 :: 32 :: 32 :: 32 :: 48 :: 32 :: 32 :: 32 :: 32 :: 32 :: 49 :: 48 :: 32 :: 32 :: 32 :: 32 :: 32 :: 32 :: 32 :: 49 :: 10 :: 108 :: 111 :: 110 :: 103 :: 32 :: 32 :: 32 :: 32 :: 32 :: 32 :: 49 :: 48 :: 48 :: 32 :: 32 :: 32 :: 32 :: 32 :: 32 :: 32 :: 32 :: 50 :: 32 :: 32 :: 32 :: 32 :: 32 :: 32 :: 51 :: 32 :: 32 :: 32 :: 32 :: 32 :: 32 :: 32 :: 52 :: 10 :: 116 :: 111 :: 116 :: 97 :: 108 :: 32 :: 32 :: 32 :: 32 :: 32 :: 49 :: 48 :: 53 :: 32 :: 32 :: 32 :: 32 :: 32 :: 32 :: 32 :: 32 :: 50 :: 32 :: 32 :: 32 :: 32 :: 32 :: 49 :: 51 :: 32 :: 32 :: 32 :: 32 :: 32 :: 32 :: 32 :: 53 :: 10 :: [])⟩
theorem dig1 (k : Nat) (h : k < 10) : dig (k : Int) = ⟨#[UInt8.ofNat (48 + k)]⟩ := by
  unfold dig; rw [itoa_nat _ (by omega), Int.toNat_natCast, decDigits_one h]
theorem dig2 (k : Nat) (h : ¬ k < 10) (h2 : k < 100) : dig (k : Int) = ⟨#[UInt8.ofNat (48 + k / 10), UInt8.ofNat (48 + k % 10)]⟩ := by
  unfold dig; rw [itoa_nat _ (by omega), Int.toNat_natCast, decDigits_two h h2]
theorem dig3 (k : Nat) (h : ¬ k < 10) (h2 : ¬ k / 10 < 10) (h3 : k / 10 < 100) : dig (k : Int) = ⟨#[UInt8.ofNat (48 + k / 10 / 10), UInt8.ofNat (48 + k / 10 % 10), UInt8.ofNat (48 + k % 10)]⟩ := by
  unfold dig; rw [itoa_nat _ (by omega), Int.toNat_natCast, dec_rec k h, decDigits_two h2 h3]; rfl
theorem exC_plain : plainB exC = true := by decide
theorem ex_text : textM exC = exT := by
  apply bytes_inj
  rw [text_data, tx_data, tx_data, tx_data, tx_data]
  rw [itoa_nat _ (by decide), itoa_nat _ (by decide), itoa_nat _ (by decide), itoa_nat _ (by decide)]
  show _ ++ 32 :: decDigits 12 ++ 44 :: 32 :: (_ ++ 32 :: decDigits 3 ++ 44 :: 32 :: (_ ++ 32 :: decDigits 4 ++ 44 :: 32 :: (_ ++ 32 :: decDigits 0))) = _
  rw [decDigits_two (by omega) (by omega), decDigits_one (by omega), decDigits_one (by omega), decDigits_one (by omega)]
  decide
theorem ex_parse : parseM exT = some exC := by rw [← ex_text]; exact parse_text exC exC_plain
theorem ex_empty : parseM ⟨#[]⟩ = none := bad_len (by rw [parts_len]; decide)
theorem ex_report : reportT [⟨#[97]⟩, ⟨#[108, 111, 110, 103]⟩] [exD, exE] = exW ∧ reportE [⟨#[97]⟩, ⟨#[108, 111, 110, 103]⟩] [exD, exE] = 0 := by
  have h1 : ¬ (([⟨#[97]⟩, ⟨#[108, 111, 110, 103]⟩] : List ByteArray).length ≠ [exD, exE].length ∨ 1000 < [exD, exE].length) := by decide
  have h2 : allOk [⟨#[97]⟩, ⟨#[108, 111, 110, 103]⟩] [exD, exE] = true := by decide +kernel
  have h3 : plainB (sumM [exD, exE]) = true := by decide +kernel
  have h4 : sumM [exD, exE] = ⟨105, 2, 13, 5⟩ := by decide +kernel
  have hr : rowsM [⟨#[97]⟩, ⟨#[108, 111, 110, 103]⟩] [exD, exE] = [headM, [⟨#[97]⟩, ⟨#[53]⟩, ⟨#[48]⟩, ⟨#[49, 48]⟩, ⟨#[49]⟩], [⟨#[108, 111, 110, 103]⟩, ⟨#[49, 48, 48]⟩, ⟨#[50]⟩, ⟨#[51]⟩, ⟨#[52]⟩], [totalB, ⟨#[49, 48, 53]⟩, ⟨#[50]⟩, ⟨#[49, 51]⟩, ⟨#[53]⟩]] := by
    unfold rowsM bodyM
    rw [h4]
    show [headM, rowM _ exD, rowM _ exE, rowM totalB ⟨105, 2, 13, 5⟩] = _
    unfold rowM exD exE
    rw [show (5 : Int) = ((5 : Nat) : Int) from rfl, show (0 : Int) = ((0 : Nat) : Int) from rfl, show (10 : Int) = ((10 : Nat) : Int) from rfl, show (1 : Int) = ((1 : Nat) : Int) from rfl, show (100 : Int) = ((100 : Nat) : Int) from rfl, show (2 : Int) = ((2 : Nat) : Int) from rfl, show (3 : Int) = ((3 : Nat) : Int) from rfl, show (4 : Int) = ((4 : Nat) : Int) from rfl, show (105 : Int) = ((105 : Nat) : Int) from rfl, show (13 : Int) = ((13 : Nat) : Int) from rfl]
    rw [dig1 5 (by omega), dig1 0 (by omega), dig2 10 (by omega) (by omega), dig1 1 (by omega), dig3 100 (by omega) (by omega) (by omega), dig1 2 (by omega), dig1 3 (by omega), dig1 4 (by omega), dig3 105 (by omega) (by omega) (by omega), dig2 13 (by omega) (by omega)]
    rfl
  unfold reportT reportE
  simp only [if_neg h1, h2, h3]
  refine ⟨?_, rfl⟩
  show reportS _ _ = _
  unfold reportS
  rw [hr]
  apply bytes_inj
  decide +kernel
theorem ex_none : reportE [] [exD, exE] = 1 := by unfold reportE; rw [if_pos (by decide)]
theorem exB : addM exC exC = ⟨24, 6, 8, 0⟩ ∧ subM exC exC = ⟨0, 0, 0, 0⟩ ∧ atM exC exC = true ∧ atM exC exD = false ∧ sumM [exD, exE] = ⟨105, 2, 13, 5⟩ := by decide +kernel
end Go.Proofs.YtajccjbigcdkbaaGreatDoor
