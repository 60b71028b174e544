/- SpanMatchesReference: the statements that compare, each as a text of its own. -/
import Derived.Test.YtnihhchgnkfcgaaWte
import Derived.Test.YtnihhchgnkfcgaaWtb
import Derived.Test.YtnihhchgnkfcgaaWs
-- USEBDN
set_option linter.unusedSimpArgs false
set_option linter.unusedVariables false
namespace Go.Proofs.Ytnihhchgnkfcgaa
open Go.ChangeShapes Go.WideShapes Go.ChangeAt Go.RowKit
/-- The four spans and the three numbers. -/
structure MrC (w : World) (L NN : Nat) (l0 l1 l2 l3 : Sp) (n0 n1 n2 : Int) (W : World) : Prop where
  below : Below w.heap.size w W
  big : w.heap.size ≤ W.heap.size
  fl : Is12 W L l0 l1 l2 l3
  f0 : W.cell? ⟨NN, 0, none⟩ = some (.int .i64 n0)
  f1 : W.cell? ⟨NN, 1, none⟩ = some (.int .i64 n1)
  f2 : W.cell? ⟨NN, 2, none⟩ = some (.int .i64 n2)
theorem MrC.step {w : World} {L NN : Nat} {l0 l1 l2 l3 : Sp} {n0 n1 n2 : Int} : ∀ W W', MrC w L NN l0 l1 l2 l3 n0 n1 n2 W → Below W.heap.size W W' → MrC w L NN l0 l1 l2 l3 n0 n1 n2 W' := fun W W' h hb =>
  ⟨h.below.trans (hb.mono h.big), Nat.le_trans h.big hb.size, h.fl.step hb, (hb.cell (World.block_lt_of_cell? _ _ h.f0)).trans h.f0, (hb.cell (World.block_lt_of_cell? _ _ h.f1)).trans h.f1, (hb.cell (World.block_lt_of_cell? _ _ h.f2)).trans h.f2⟩
/-- .. and a span. -/
structure MrS (C : World → Prop) (B : Nat) (P : Sp) (W : World) : Prop where
  c : C W
  s : Is3 W B P
theorem MrS.step {C : World → Prop} {B : Nat} {P : Sp} (hC : ∀ w w', C w → Below w.heap.size w w' → C w') : ∀ W W', MrS C B P W → Below W.heap.size W W' → MrS C B P W' := fun W W' h hb => ⟨hC _ _ h.c hb, h.s.step hb⟩
theorem fld31 (a b c : Int) (d : Bool) (w : World) : (Instr.field 31 (.agg #[.int .i64 a, .int .i64 b, .int .i64 c, .bool d]) 1).run Try.prog w = .ok (.bool d) w := by kernel_rfl
end Go.Proofs.Ytnihhchgnkfcgaa

