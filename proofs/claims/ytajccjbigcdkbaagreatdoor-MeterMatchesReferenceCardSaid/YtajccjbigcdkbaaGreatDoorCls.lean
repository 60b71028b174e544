/- Classes of worlds for the law on regions that draw their order: some cells are known, and all that is below a block number is as it was. -/
import Derived.Test.YtajccjbigcdkbaaGreatDoorMild
import Derived.WalkKit
set_option linter.unusedSimpArgs false
set_option linter.unusedVariables false
namespace Go.Proofs.YtajccjbigcdkbaaGreatDoor.Mild
open Go.RowKit

/-- Below B the world is as w0 was; these cells hold this. -/
structure Cls (B : Nat) (w0 : World) (cs : List (Addr × Value)) (W : World) : Prop where
  below : Below B w0 W
  big : B ≤ W.heap.size
  cells : ∀ p ∈ cs, W.cell? p.1 = some p.2

theorem Cls.closed {B : Nat} {w0 : World} {cs : List (Addr × Value)} : ∀ w w', Cls B w0 cs w → Below w.heap.size w w' → Cls B w0 cs w' := fun w w' h hb =>
  ⟨h.below.trans (hb.mono h.big), Nat.le_trans h.big hb.size, fun p hp => by
    have := h.cells p hp
    rw [hb.cell (World.block_lt_of_cell? w _ this)]; exact this⟩

theorem cell_of_block {w : World} {b : Nat} {cs : Array Value} {t : TypeId} (h : w.heap[b]? = some (.cells cs t)) (k : Nat) : w.cell? ⟨b, k, none⟩ = cs[k]? := by
  simp [World.cell?, h]
theorem free_of_block {w : World} {b : Nat} {cs : Array Value} {t : TypeId} (h : w.heap[b]? = some (.cells cs t)) (k : Nat) : w.frozen? ⟨b, k, none⟩ = false := by
  simp [World.frozen?, h]
theorem lt_of_block {w : World} {b : Nat} {o : Obj} (h : w.heap[b]? = some o) : b < w.heap.size := (Array.getElem?_eq_some_iff.1 h).1

/-- Below B the world is as w0 was; these blocks are these. -/
structure Bks (B : Nat) (w0 : World) (bs : List (Nat × Obj)) (W : World) : Prop where
  below : Below B w0 W
  big : B ≤ W.heap.size
  blocks : ∀ p ∈ bs, W.heap[p.1]? = some p.2
theorem Bks.closed {B : Nat} {w0 : World} {bs : List (Nat × Obj)} : ∀ w w', Bks B w0 bs w → Below w.heap.size w w' → Bks B w0 bs w' := fun w w' h hb =>
  ⟨h.below.trans (hb.mono h.big), Nat.le_trans h.big hb.size, fun p hp => by
    have := h.blocks p hp
    rw [hb.block _ (lt_of_block this)]; exact this⟩
theorem alloc_at (w : World) (o : Obj) : (w.alloc o).heap[w.heap.size]? = some o := by
  unfold World.alloc
  exact Array.getElem?_push_size
theorem alloc_lt {w : World} {b : Nat} {o' : Obj} (o : Obj) (h : w.heap[b]? = some o') : (w.alloc o).heap[b]? = some o' := by
  have := lt_of_block h
  rw [show (w.alloc o).heap = w.heap.push o from rfl, Array.getElem?_push, if_neg (by omega)]; exact h
theorem set_ne {w : World} {b c : Nat} {o : Nat} {v : Value} {ob : Obj} (h : w.heap[b]? = some ob) (hne : b ≠ c) : (w.setCell ⟨c, o, none⟩ v).heap[b]? = some ob := by
  rw [Below.heap_setCell w ⟨c, o, none⟩ v b hne]; exact h

theorem walkM_q {P : Program} {ops : Array Oper} {mks : List Maker} {W : World} {aU a : Act} {k : Nat} {o : Oper} {rest : List Oper} (h : isMk mks k = false) (h2 : wpList P ops (MQ W a (walkM P ops mks W aU (k + 1) rest)) [o] a W) :
    walkM P ops mks W aU k (o :: rest) a := by
  unfold walkM; rw [if_neg (by simp [h])]; exact h2
theorem walkM_m {P : Program} {ops : Array Oper} {mks : List Maker} {W : World} {aU a : Act} {k : Nat} {o : Oper} {rest : List Oper} (h : isMk mks k = true) (h2 : walkM P ops mks W aU (k + 1) rest a) :
    walkM P ops mks W aU k (o :: rest) a := by
  unfold walkM; rw [if_pos h]; exact h2
theorem walkM_end {P : Program} {ops : Array Oper} {mks : List Maker} {W : World} {aU a : Act} {k : Nat} (h : a = aU) : walkM P ops mks W aU k [] a := h

/-- The law with the walk and what follows in one existence: the frame in which the walk ends is found by it. -/
theorem region_mild {P : Program} {id : Nat} {Q : Exit → Act → World → Prop} {a0 : Act} {w : World} {l : List Oper} (n : Nat) (mks : List Maker) (C : World → Prop) (hm : P.follows .mixedOrders = true)
    (sz : Nat) (hB : mildB l.toArray n mks sz = true) (hsz : a0.tmps.size = sz) (hu : ∀ m ∈ mks, ∀ m' ∈ mks, m'.idx = m.idx → m' = m)
    (hC : ∀ w w', C w → Below w.heap.size w w' → C w') (h0 : C w)
    (HM : ∀ m ∈ mks, ∀ o, l.toArray[m.idx]? = some o → ∀ ρ W, (execOp ρ o).run P W = .ok (.value (ptrTo W.heap.size)) (W.alloc m.obj))
    (H : ∃ aU, (∀ W, C W → walkM P l.toArray mks W aU 0 (l.take n) a0) ∧
      ∀ (F : Nat → Nat) (w' : World), C w' → (∀ m ∈ mks, w.heap.size ≤ F m.idx ∧ w'.heap[F m.idx]? = some m.obj) → (∀ m ∈ mks, ∀ m' ∈ mks, m.idx ≠ m'.idx → F m.idx ≠ F m'.idx) → wpList P l.toArray Q (l.drop n) (putAll F mks aU) w') :
    (Code.region id l.toArray true).wp P Q a0 w :=
  let ⟨aU, h1, h2⟩ := H
  wp_region_mild n mks C aU hm sz hB hsz hu hC h0 HM h1 h2
end Go.Proofs.YtajccjbigcdkbaaGreatDoor.Mild
