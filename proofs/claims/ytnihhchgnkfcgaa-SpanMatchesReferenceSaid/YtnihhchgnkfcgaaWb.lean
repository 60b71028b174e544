/- The walk of the greatest common divisor of a list (span.gcd) and of two numbers (the reference's Gcd). -/
import Derived.Test.YtnihhchgnkfcgaaWa
set_option linter.unusedSimpArgs false
set_option linter.unusedVariables false
namespace Go.Proofs.Ytnihhchgnkfcgaa
open Go.ChangeShapes Go.WideShapes Go.ChangeAt Go.RowKit

/-- It returns this value, and the world has at most drawn. -/
def Drw (v : Value) (w : World) (e : Ending) (w' : World) : Prop := e = .returned v ∧ ∃ q, w' = w.drewN q

set_option maxHeartbeats 400000 in
theorem gcd_any (zs : List Int) (b : Nat) (w : World) (hc : ∀ k, k < zs.length → w.cell? ⟨b, k, none⟩ = some (.int .i64 (zs.getD k 0)))
    (hl : zs.length ≤ 9223372036854775807) (hb : ∀ k, k < zs.length → -4611686018427387904 ≤ zs.getD k 0 ∧ zs.getD k 0 ≤ 4611686018427387904) :
    Calls Try.prog 47 #[.slice (some ⟨b, 0, none⟩) zs.length zs.length] w (Drw (.int .i64 (gcdN zs)) w) := by
  have HC := Lib.hid hc; clear hc
  have HB := Lib.hid hb; clear hb
  go_enter Try.func47, Try.ntmps47
  go_wp2
  go_loopw [3, 5, 8] (fun g _ i wr => ∃ (k : Nat) (a : Int) (q : Nat), k ≤ zs.length ∧ i = .int .i64 k ∧ g = .int .i64 a ∧ Hid (a.natAbs = gcdN (zs.take k)) ∧ a.natAbs ≤ 4611686018427387904 ∧ wr = w.drewN q) (fun _ _ i _ => zs.length - (intOf i).toNat)
  case atStart => exact ⟨0, 0, 0, by omega, rfl, rfl, rfl, by omega, rfl⟩
  case round =>
    obtain ⟨k, a, q, hk, rfl, rfl, ha, hab, rfl⟩ := hrel
    by_cases hlt : k < zs.length
    · have hcell := HC.out k hlt
      have hbd := HB.out k hlt
      have hz : Hid (gcdN (zs.take (k + 1)) = Nat.gcd (gcdN (zs.take k)) (zs.getD k 0).natAbs) := by
        show gcdN (zs.take (k + 1)) = _
        rw [take_snoc_int zs k hlt, gcdN_snoc, List.getD_eq_getElem?_getD, List.getElem?_eq_getElem hlt]
        rfl
      obtain ⟨z, hz0⟩ : ∃ z, z = zs.getD k 0 := ⟨_, rfl⟩
      rw [← hz0] at hcell hbd hz
      clear hz0
      obtain ⟨b1, b2⟩ := hbd
      go_wp2
      go_loopw [3, 5] (fun g n wr => ∃ (c d : Int) (q : Nat), g = .int .i64 c ∧ n = .int .i64 d ∧ Hid (Int.gcd c d = gcdN (zs.take (k + 1))) ∧ c.natAbs ≤ 4611686018427387904 ∧ d.natAbs ≤ 4611686018427387904 ∧ wr = w.drewN q) (fun _ n _ => (intOf n).natAbs)
      case atStart => exact ⟨a, z, q, rfl, rfl, by show Int.gcd a z = _; rw [hz.out, ← ha.out]; rfl, hab, by omega, rfl⟩
      case round =>
        obtain ⟨c, d, q, rfl, rfl, hg, hc1, hd1, rfl⟩ := hrel
        by_cases hd : d = 0
        · subst hd
          go_wp2
          go_roundw
          case rel => exact ⟨k + 1, c, q, by omega, by go_num, rfl, by show c.natAbs = _; rw [← hg.out]; simp [Int.gcd], hc1, rfl⟩
          case measure => simp [intOf]; omega
        · have hne : (d == 0) = false := beq_eq_false_iff_ne.2 hd
          have hne2 : (d != 0) = true := by simp [hd]
          have H1 := Lib.hid (gcd_step c d)
          have H2 := Lib.hid (tmod_abs_lt c d hd)
          go_wp2
          go_quiet (fail)
          go_wp2
          go_roundw
          case rel => exact ⟨d, c.tmod d, _, rfl, rfl, by show Int.gcd _ _ = _; rw [H1.out]; exact hg.out, hd1, by have := H2.out; omega, by rw [World.drewN_drewN]⟩
          case measure => exact H2.out
    · have hkl : k = zs.length := by omega
      have HK := Lib.hid hkl; clear hkl
      have := ha.out
      rw [HK.out, List.take_length] at this
      have HA := Lib.hid this; clear this
      go_wp2
      · go_ret
        exact ⟨ret_int (by rw [← HA.out]; omega), _, rfl⟩
      · go_ret
        exact ⟨ret_int (by rw [← HA.out]; omega), _, rfl⟩
end Go.Proofs.Ytnihhchgnkfcgaa
