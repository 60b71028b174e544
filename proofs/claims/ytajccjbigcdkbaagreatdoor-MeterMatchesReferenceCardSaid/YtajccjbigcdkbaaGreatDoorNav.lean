/- Parts of a text as declarations of their own, and a list of operations cut in two, where the ways meet. -/
import Derived.WalkKit
set_option linter.unusedSimpArgs false
set_option linter.unusedVariables false
namespace Go.Proofs.YtajccjbigcdkbaaGreatDoor
open Go.RowKit

/-- A part of a text: 0 the left one, 1 the right one (or what a block, a loop or a scope holds). -/
def navC : List Nat → Code → Code
  | 0 :: p, .seq a _ => navC p a
  | _ :: p, .seq _ b => navC p b
  | 0 :: p, .cond _ a _ => navC p a
  | _ :: p, .cond _ _ b => navC p b
  | _ :: p, .loop c => navC p c
  | _ :: p, .block _ c => navC p c
  | _ :: p, .scope c => navC p c
  | _, c => c

section
variable {P : Program} {ops : Array Oper} {Q Q' : Exit → Act → World → Prop}

theorem oper_wp_turn {o : Oper} {a : Act} {w : World} {K K' : Act → World → Prop} (hk : ∀ a w, K a w → K' a w) (hq : ∀ e a w, e ≠ .normal → Q e a w → Q' e a w)
    (h : o.wp P a w K Q) : o.wp P a w K' Q' := by
  unfold Oper.wp at h ⊢
  generalize (execOp a.eval o).run P w = r at h
  cases r with
  | ok nx w' =>
    cases nx <;> simp only [Oper.upon] at h ⊢
    case value v => exact hk _ _ h
    case skip => exact hk _ _ h
    case defer d => exact hk _ _ h
    case enter f args =>
      refine h.mono fun e w'' he => ?_
      cases e with
      | returned v => exact hk _ _ he
      | panicked c => exact hq _ _ _ (by simp) he
      | outgrown => obtain ⟨a1, w1, he⟩ := he; exact ⟨a1, w1, hq _ _ _ (by simp) he⟩
    case row row args => exact h.mono fun v w'' he => hk _ _ he
  | halt x w' =>
    cases x <;> simp only [Oper.upon] at h ⊢
    exact hq _ _ _ (by simp) h

theorem wpList_cat (l2 : List Oper) (hn : ∀ a w, Q' .normal a w → wpList P ops Q l2 a w) (hq : ∀ e a w, e ≠ .normal → Q' e a w → Q e a w) :
    ∀ (l1 : List Oper) (a : Act) (w : World), wpList P ops Q' l1 a w → wpList P ops Q (l1 ++ l2) a w
  | [], a, w, h => hn _ _ h
  | o :: l1, a, w, h => by
    rw [List.cons_append]
    unfold wpList at h ⊢
    split
    · rename_i hw
      rw [if_pos hw] at h
      rcases h with h | ⟨h, a1, w1, ho⟩
      · exact .inl (oper_wp_turn (wpList_cat l2 hn hq l1) hq h)
      · exact .inr ⟨h, a1, w1, hq _ _ _ (by simp) ho⟩
    · rename_i hw
      rw [if_neg hw] at h
      exact wpList_cat l2 hn hq l1 _ _ h

/-- THE WAYS THROUGH THE FIRST n OPERATIONS MEET: a relation on the frame and the world holds there. -/
theorem wpList_cutK {l : List Oper} {a : Act} {w : World} (n : Nat) (R : Act → World → Prop)
    (first : ∀ K : Act → World → Prop, (∀ a w, R a w → K a w) → wpList P ops (Exit.then K Q) (l.take n) a w)
    (rest : ∀ a w, R a w → wpList P ops Q (l.drop n) a w) : wpList P ops Q l a w := by
  rw [← List.take_append_drop n l]
  refine wpList_cat (Q' := Exit.then R Q) _ rest (fun e a w he h => ?_) _ _ _ (first R fun _ _ h => h)
  cases e with
  | normal => exact absurd rfl he
  | _ => exact h
end
end Go.Proofs.YtajccjbigcdkbaaGreatDoor
