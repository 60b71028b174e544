/- Spans in memory blocks, and what a new block for one holds. -/
import Derived.Test.YtnihhchgnkfcgaaRaw
import Derived.Test.YtnihhchgnkfcgaaCls
set_option linter.unusedSimpArgs false
set_option linter.unusedVariables false
namespace Go.Proofs.Ytnihhchgnkfcgaa
open Go.ChangeShapes Go.WideShapes Go.ChangeAt Go.RowKit
abbrev zobj : Obj := .cells #[.int .i64 0, .int .i64 0, .int .i64 0] 28
abbrev zmet : Obj := .cells #[.int .i64 0, .int .i64 0, .int .i64 0, .bool false] 31
theorem mk28 (dst : Option Tmp) (ty : TypeId) (pos : String) (after : Array Edge) (g : Option (Nat × Bool)) (ρ : Operand → Value) (W : World) :
    (execOp ρ ⟨dst, .alloc 28, ty, pos, after, g⟩).run Try.prog W = .ok (.value (Mild.ptrTo W.heap.size)) (W.alloc zobj) := by
  simp [go_sem, Mild.ptrTo]
theorem mk31 (dst : Option Tmp) (ty : TypeId) (pos : String) (after : Array Edge) (g : Option (Nat × Bool)) (ρ : Operand → Value) (W : World) :
    (execOp ρ ⟨dst, .alloc 31, ty, pos, after, g⟩).run Try.prog W = .ok (.value (Mild.ptrTo W.heap.size)) (W.alloc zmet) := by
  simp [go_sem, Mild.ptrTo]
/-- The cells of a span. -/
abbrev cellsOf3 (A : Nat) (s : Sp) : List (Addr × Value) := [(⟨A, 0, none⟩, .int .i64 s.lo), (⟨A, 1, none⟩, .int .i64 s.hi), (⟨A, 2, none⟩, .int .i64 s.st)]
/-- A span lies in a block. -/
structure Is3 (W : World) (A : Nat) (s : Sp) : Prop where
  lo : W.cell? ⟨A, 0, none⟩ = some (.int .i64 s.lo)
  hi : W.cell? ⟨A, 1, none⟩ = some (.int .i64 s.hi)
  st : W.cell? ⟨A, 2, none⟩ = some (.int .i64 s.st)
/-- A span, or none, lies in a block. -/
structure Is4 (W : World) (A : Nat) (r : Sp × Bool) : Prop where
  s : Is3 W A r.1
  is : W.cell? ⟨A, 3, none⟩ = some (.bool r.2)
theorem Is3.lt {W : World} {A : Nat} {s : Sp} (h : Is3 W A s) : A < W.heap.size := World.block_lt_of_cell? W _ h.lo
theorem Is3.step {W W' : World} {A : Nat} {s : Sp} (h : Is3 W A s) (hb : Below W.heap.size W W') : Is3 W' A s :=
  ⟨(hb.cell h.lt).trans h.lo, (hb.cell h.lt).trans h.hi, (hb.cell h.lt).trans h.st⟩
theorem Is4.step {W W' : World} {A : Nat} {s : Sp × Bool} (h : Is4 W A s) (hb : Below W.heap.size W W') : Is4 W' A s :=
  ⟨h.s.step hb, (hb.cell h.s.lt).trans h.is⟩

end Go.Proofs.Ytnihhchgnkfcgaa
