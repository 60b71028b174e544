/- A name for a report. -/
import Derived.Test.YtajccjbigcdkbaaGreatDoorMf
-- USEBDN
set_option linter.unusedSimpArgs false
set_option linter.unusedVariables false
namespace Go.Proofs.YtajccjbigcdkbaaGreatDoor
open Go.ChangeShapes Go.WideShapes Go.ChangeAt Go.RowKit
def oddP (r : Nat) : Bool := decide (r < 33) || decide (126 < r)
theorem odd_cases (r : Nat) : ((r : Int) < 33 ∧ oddP r = true) ∨ (¬ (r : Int) < 33 ∧ 126 < (r : Int) ∧ oddP r = true) ∨ (¬ (r : Int) < 33 ∧ ¬ 126 < (r : Int) ∧ oddP r = false) := by
  unfold oddP
  by_cases h1 : r < 33 <;> by_cases h2 : 126 < r <;> simp [h1, h2] <;> omega
theorem odd_any (r : Nat) (w : World) : Calls Tryz.prog 57 #[.int .i32 (r : Int)] w fun e w' => e = .returned (.bool (oddP r)) ∧ w' = w := by
  rcases odd_cases r with ⟨h1, e1⟩ | ⟨h1, h2, e1⟩ | ⟨h1, h2, e1⟩
  all_goals
    have hD := Lib.hid e1; clear e1
    go_enter Tryz.func57, Tryz.ntmps57
    go_wp2
    go_ret
    exact ⟨ret_bool hD.out.symm, rfl⟩
def oddIn (s : ByteArray) : Bool := decide (0 ≤ Lib.idxFunc oddP true s)
def namedB (s : ByteArray) : Bool := decide (1 ≤ s.size) && decide (s.size ≤ 40) && !oddIn s
theorem contains_any (s : ByteArray) (w : World) : Calls Tryz.prog 58 #[.string s, .func (.func 57) #[] #[]] w fun e w' => e = .returned (.bool (oddIn s)) ∧ Below w.heap.size w w' :=
  Tryz.strings_ContainsFunc 57 #[] (enters_of Tryz.func57 (by kernel_rfl) rfl) oddP s w (fun W x hb => (odd_any x W).mono fun e w' ⟨he, hw⟩ => ⟨he, 0, by rw [hw]; rfl⟩)
theorem named_any (s : ByteArray) (w : World) : Calls Tryz.prog 46 #[.string s] w fun e w' => e = .returned (.bool (namedB s)) ∧ Below w.heap.size w w' := by
  by_cases h1 : 1 ≤ s.size
  · by_cases h2 : s.size ≤ 40
    · cases hq : oddIn s
      all_goals
        have hD := Lib.hid (show namedB s = !oddIn s by unfold namedB; simp [h1, h2])
        have hQ := Lib.hid hq; clear hq
        go_enter Tryz.func46, Tryz.ntmps46
        go_wp2_with (go_at_call 58; refine (contains_any s _).mono ?_; rintro e w1 ⟨rfl, hb⟩; rw [hQ.out])
        go_ret
        exact ⟨ret_bool (by rw [hD.out, hQ.out]; rfl), hb⟩
    · have hD := Lib.hid (show namedB s = false by unfold namedB; simp [h2])
      go_enter Tryz.func46, Tryz.ntmps46
      go_wp2
      go_ret
      exact ⟨ret_bool hD.out.symm, Below.refl _ _⟩
  · have hD := Lib.hid (show namedB s = false by unfold namedB; simp [h1])
    go_enter Tryz.func46, Tryz.ntmps46
    go_wp2
    go_ret
    exact ⟨ret_bool hD.out.symm, Below.refl _ _⟩
end Go.Proofs.YtajccjbigcdkbaaGreatDoor
