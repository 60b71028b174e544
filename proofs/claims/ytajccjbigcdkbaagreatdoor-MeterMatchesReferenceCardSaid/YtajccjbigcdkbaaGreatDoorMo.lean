/- A line of words that are padded: a round. -/
import Derived.Test.YtajccjbigcdkbaaGreatDoorMj
-- USEBDN
set_option linter.unusedSimpArgs false
set_option linter.unusedVariables false
namespace Go.Proofs.YtajccjbigcdkbaaGreatDoor
open Go.ChangeShapes Go.WideShapes Go.ChangeAt Go.RowKit
theorem builder_below {T e : TypeId} {B b : Nat} {bs : List Value} {w w' : World} (h : Lib.IsBuilder T e B b bs w) (hb : Below w.heap.size w w') : Lib.IsBuilder T e B b bs w' := by
  rcases h with ⟨h1, v, h2, h3, h4⟩ | ⟨h1, v, h2, h3, h4⟩
  · exact .inl ⟨h1, v, by rw [hb.block b (Mild.lt_of_block h2)]; exact h2, own_below h3 hb, h4⟩
  · exact .inr ⟨h1, v, by rw [hb.block b (Mild.lt_of_block h2)]; exact h2, own_below h3 hb, h4⟩
theorem builder_new {T e : TypeId} {B : Nat} {w : World} (hB : B ≤ w.heap.size) : Lib.IsBuilder T e B w.heap.size (Lib.byteCells []) (w.alloc (.cells #[.pointer none, .slice none 0 0] T)) :=
  .inl ⟨hB, _, Mild.alloc_at _ _, ⟨rfl, .inl ⟨rfl, rfl⟩⟩, by simp [Value.ownBlock]⟩
/-- Blanks. -/
def padB (n : Int) : ByteArray := ⟨(Lib.repeatL [32] n.toNat).toArray⟩
theorem pad_size (n : Int) : (padB n).size = n.toNat := by
  show (Lib.repeatL [32] n.toNat).toArray.size = _
  rw [List.size_toArray, Lib.repeatL_length]; simp
theorem repeat_any (n : Int) (h0 : 0 ≤ n) (h1 : n ≤ 100000) (w : World) : Calls Tryz.prog 60 #[.string ⟨#[32]⟩, .int .i64 n] w fun e w' => e = .returned (.string (padB n)) ∧ Below w.heap.size w w' := by
  obtain ⟨c, rfl⟩ := Int.eq_ofNat_of_zero_le h0
  exact Tryz.strings_Repeat ⟨#[32]⟩ c w (by omega) (by show 1 * c ≤ _; omega)
/-- While a line is made: the builder holds l. -/
structure BH (w0 : World) (b : Nat) (l : List UInt8) (W : World) : Prop where
  below : Below w0.heap.size w0 W
  big : w0.heap.size ≤ W.heap.size
  own : Lib.IsBuilder 67 5 w0.heap.size b (Lib.byteCells l) W
theorem BH.grow {w0 : World} {b : Nat} {l : List UInt8} {W W' : World} (h : BH w0 b l W) (hb : Below W.heap.size W W') : BH w0 b l W' :=
  ⟨h.below.trans (hb.mono h.big), Nat.le_trans h.big hb.size, builder_below h.own hb⟩
theorem write_any (w0 : World) (b : Nat) (l : List UInt8) (x : ByteArray) (W : World) (h : BH w0 b l W) (hl : l.length + x.size ≤ 140737488355328) :
    Calls Tryz.prog 40 #[.pointer (some ⟨b, 0, none⟩), .string x] W fun e w' => e = .returned (.tuple #[.int .i64 x.size, .nilIface]) ∧ BH w0 b (l ++ x.data.toList) w' := by
  refine (Tryz.Builder_WriteString w0.heap.size b (Lib.byteCells l) x W h.own (by rw [Lib.byteCells_length]; exact hl) h.big).mono ?_
  rintro e w' ⟨he, hb, hB⟩
  exact ⟨he, h.below.trans hB, Nat.le_trans h.big hB.size, .inr (by rw [Lib.byteCells_append]; exact hb)⟩
/-- A word of a line, with its blanks. -/
def cellM (i : Nat) (n : Int) (x : ByteArray) : ByteArray := if i = 0 then x ++ padB (n - x.size) else (⟨#[32, 32]⟩ ++ padB (n - x.size)) ++ x
theorem cell_size (i : Nat) (n : Int) (x : ByteArray) (h1 : x.size ≤ n) : (cellM i n x).size ≤ n.toNat + 2 := by
  unfold cellM
  split
  · rw [ByteArray.size_append, pad_size]; omega
  · rw [ByteArray.size_append, ByteArray.size_append, pad_size]
    show 2 + _ + _ ≤ _
    omega

set_option maxRecDepth 20000 in
set_option maxHeartbeats 2000000 in
theorem joined4 (w0 W : World) (b U g cap : Nat) (l : List UInt8) (hC : BH w0 b l W) (hl : l.length ≤ 10000) (hcap : 5 ≤ cap) (i : Nat) (hi : i < 5) (n : Int) (x : ByteArray) (hn : n ≤ 1000) (hx : x.size ≤ n) (cU : W.cell? ⟨U, i, none⟩ = some (.int .i64 n)) (cg : W.cell? ⟨g, i, none⟩ = some (.string x))
    (j1 j2 j3 j4 j6 j7 j8 j12 j13 j14 j15 j16 j17 j18 j19 j20 j21 j22 j23 j24 j25 j26 j27 j28 j29 j30 j31 j32 j33 j34 j35 j36 j37 : Value) (Q0 : Exit → Act → World → Prop)
    (h0 : ∀ j6 j7 j8 j13 j14 j15 j16 j17 j18 j19 j20 j21 j22 j23 j24 j25 j26 j27 j28 j29 j30 j31 j32 j33 j34 W', BH w0 b (l ++ (cellM i n x).data.toList) W' → Q0 .normal { tmps := #[.slice (some ⟨U, 0, none⟩) 5 5, j1, j2, j3, j4, pt b 0, j6, j7, j8, .slice (some ⟨g, 0, none⟩) 5 cap, .int .i64 5, .int .i64 i, j12, j13, j14, j15, j16, j17, j18, j19, j20, j21, j22, j23, j24, j25, j26, j27, j28, j29, j30, j31, j32, j33, j34, j35, j36, j37], defers := [] } W') :
    (navC [1, 1, 0, 1, 1, 1, 1, 1, 0] (Tryz.f49.body.getD .skip)).wp Tryz.prog Q0 { tmps := #[.slice (some ⟨U, 0, none⟩) 5 5, j1, j2, j3, j4, pt b 0, j6, j7, j8, .slice (some ⟨g, 0, none⟩) 5 cap, .int .i64 5, .int .i64 i, j12, j13, j14, j15, j16, j17, j18, j19, j20, j21, j22, j23, j24, j25, j26, j27, j28, j29, j30, j31, j32, j33, j34, j35, j36, j37], defers := [] } W := by
  conv => arg 2; whnf
  have hx0 : 0 ≤ n - x.size := by omega
  have hx1 : n - x.size ≤ 100000 := by omega
  have hp := pad_size (n - x.size)
  have hsz : (padB (n - x.size)).size ≤ 1000 := by omega
  have hxs : x.size ≤ 1000 := by omega
  clear hp
  have h0' := Lib.hid h0; clear h0
  have HC := Lib.hid hC; clear hC
  by_cases hi0 : i = 0
  · subst hi0
    go_wp2_with (first | (go_at_call 60; refine (repeat_any _ hx0 hx1 _).mono ?_; rintro e w1 ⟨rfl, hb1⟩) | (go_at_call 40; refine (write_any w0 b l _ _ (HC.out.grow hb1) (by rw [ByteArray.size_append]; omega)).mono ?_; rintro e w2 ⟨rfl, hb2⟩))
    exact h0'.out _ _ _ _ _ _ _ _ _ _ _ _ _ _ _ _ _ _ _ _ _ _ _ _ _ _ (by unfold cellM; rw [if_pos rfl]; exact hb2)
  · have hik : ((i : Int) == 0) = false := by rw [beq_eq_false_iff_ne]; omega
    go_wp2_with (first | (go_at_call 60; refine (repeat_any _ hx0 hx1 _).mono ?_; rintro e w1 ⟨rfl, hb1⟩) | (go_at_call 40; refine (write_any w0 b l _ _ (HC.out.grow hb1) (by rw [ByteArray.size_append, ByteArray.size_append]; show _ + (2 + _ + _) ≤ _; omega)).mono ?_; rintro e w2 ⟨rfl, hb2⟩))
    exact h0'.out _ _ _ _ _ _ _ _ _ _ _ _ _ _ _ _ _ _ _ _ _ _ _ _ _ _ (by unfold cellM; rw [if_neg hi0]; exact hb2)
end Go.Proofs.YtajccjbigcdkbaaGreatDoor
