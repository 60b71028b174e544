/- A line of words that are padded. -/
import Derived.Test.YtajccjbigcdkbaaGreatDoorMo
-- USEBDN
set_option linter.unusedSimpArgs false
set_option linter.unusedVariables false
namespace Go.Proofs.YtajccjbigcdkbaaGreatDoor
open Go.ChangeShapes Go.WideShapes Go.ChangeAt Go.RowKit
def lineL : Nat → List Int → List ByteArray → List UInt8
  | i, n :: ns, x :: xs => (cellM i n x).data.toList ++ lineL (i + 1) ns xs
  | _, _, _ => [10]
def lineM (ns : List Int) (xs : List ByteArray) : ByteArray := ⟨(lineL 0 ns xs).toArray⟩
theorem mk_append (a b : List UInt8) : (⟨a.toArray⟩ : ByteArray) ++ ⟨b.toArray⟩ = ⟨(a ++ b).toArray⟩ := by
  apply ByteArray.ext
  rw [ByteArray.data_append]; simp
theorem five {α : Type} {l : List α} (h : l.length = 5) : ∃ a b c d e, l = [a, b, c, d, e] := by
  match l, h with
  | [a, b, c, d, e], _ => exact ⟨a, b, c, d, e, rfl⟩
def RowS (W : World) (g : Nat) (xs : List ByteArray) : Prop := ∀ (j : Nat) x, xs[j]? = some x → W.cell? ⟨g, j, none⟩ = some (.string x)
def WideI (W : World) (U : Nat) (ns : List Int) : Prop := ∀ (j : Nat) n, ns[j]? = some n → W.cell? ⟨U, j, none⟩ = some (.int .i64 n)
def Fits (ns : List Int) (xs : List ByteArray) : Prop := ∀ (j : Nat) n x, ns[j]? = some n → xs[j]? = some x → (x.size : Int) ≤ n ∧ n ≤ 1000
def mkB (l : List UInt8) : ByteArray := ⟨l.toArray⟩
def acc5 (c0 c1 c2 c3 c4 : ByteArray) : List UInt8 := ((((([] ++ c0.data.toList) ++ c1.data.toList) ++ c2.data.toList) ++ c3.data.toList) ++ c4.data.toList)
theorem string_any (w0 : World) (b : Nat) (l : List UInt8) (W : World) (h : BH w0 b l W) : Calls Tryz.prog 41 #[.pointer (some ⟨b, 0, none⟩)] W fun e w' => e = .returned (.string (mkB l)) ∧ Below w0.heap.size W w' :=
  Tryz.Builder_String_any w0.heap.size b l W h.own h.big
theorem line_ret (c0 c1 c2 c3 c4 : ByteArray) (l : List UInt8) (h : l = c0.data.toList ++ (c1.data.toList ++ (c2.data.toList ++ (c3.data.toList ++ (c4.data.toList ++ [10]))))) :
    Ending.returned (.string (mkB (acc5 c0 c1 c2 c3 c4) ++ ⟨#[10]⟩)) = .returned (.string ⟨l.toArray⟩) := by
  rw [show (⟨#[10]⟩ : ByteArray) = ⟨[10].toArray⟩ from rfl, mkB, mk_append, h, acc5]; simp only [List.append_assoc, List.nil_append]
set_option maxRecDepth 20000 in
set_option maxHeartbeats 4000000 in
theorem joined_any (U g cap : Nat) (ns : List Int) (xs : List ByteArray) (w : World) (hU : U < w.heap.size) (hg : g < w.heap.size) (hcap : 5 ≤ cap) (hn : ns.length = 5) (hx : xs.length = 5) (hcU : WideI w U ns) (hcg : RowS w g xs) (hf : Fits ns xs) :
    Calls Tryz.prog 49 #[.slice (some ⟨U, 0, none⟩) 5 5, .slice (some ⟨g, 0, none⟩) 5 cap] w fun e w' => e = .returned (.string (lineM ns xs)) ∧ Below w.heap.size w w' := by
  obtain ⟨n0, n1, n2, n3, n4, rfl⟩ := five hn
  obtain ⟨x0, x1, x2, x3, x4, rfl⟩ := five hx
  clear hn hx
  have HU := Lib.hid hcU; clear hcU
  have HG := Lib.hid hcg; clear hcg
  obtain ⟨f0, k0⟩ := hf 0 n0 x0 rfl rfl
  have s0 := cell_size 0 n0 x0 f0
  obtain ⟨f1, k1⟩ := hf 1 n1 x1 rfl rfl
  have s1 := cell_size 1 n1 x1 f1
  obtain ⟨f2, k2⟩ := hf 2 n2 x2 rfl rfl
  have s2 := cell_size 2 n2 x2 f2
  obtain ⟨f3, k3⟩ := hf 3 n3 x3 rfl rfl
  have s3 := cell_size 3 n3 x3 f3
  obtain ⟨f4, k4⟩ := hf 4 n4 x4 rfl rfl
  have s4 := cell_size 4 n4 x4 f4
  clear hf
  have HL := Lib.hid (show lineL 0 [n0, n1, n2, n3, n4] [x0, x1, x2, x3, x4] = (cellM 0 n0 x0).data.toList ++ ((cellM 1 n1 x1).data.toList ++ ((cellM 2 n2 x2).data.toList ++ ((cellM 3 n3 x3).data.toList ++ ((cellM 4 n4 x4).data.toList ++ [10])))) from rfl)
  go_enter Tryz.func49, Tryz.ntmps49
  go_wp2
  have hC : BH w w.heap.size [] (w.alloc (.cells #[.pointer none, .slice none 0 0] 67)) := ⟨(Below.refl _ _).alloc (Nat.le_refl _) _, by go_size, builder_new (Nat.le_refl _)⟩
  have HC := Lib.hid hC; clear hC
  have hlen : ∀ (a b : List UInt8) (m n : Nat), a.length ≤ m → b.length ≤ n → (a ++ b).length ≤ m + n := fun a b m n h1 h2 => by rw [List.length_append]; omega
  have HLn := Lib.hid hlen; clear hlen
  have hsz : ∀ x : ByteArray, x.data.toList.length = x.size := fun x => by rw [Array.length_toList]; rfl
  have HSz := Lib.hid hsz; clear hsz
  generalize hw1 : w.alloc (.cells #[.pointer none, .slice none 0 0] 67) = W at HC ⊢
  have HW := Lib.hid hw1; clear hw1
  refine wp_loop_rounds 6 ?_
  rw [rounds_succ]
  go_upto_block 1 with (fail)
  refine joined4 w _ w.heap.size U g cap _ HC.out (by simp only [List.length_append, List.length_nil, HSz.out]; omega) hcap 0 (by omega) n0 x0 k0 f0 ((HC.out.below.cell (p := ⟨U, 0, none⟩) hU).trans (HU.out 0 n0 rfl)) ((HC.out.below.cell (p := ⟨g, 0, none⟩) hg).trans (HG.out 0 x0 rfl)) _ _ _ _ _ _ _ _ _ _ _ _ _ _ _ _ _ _ _ _ _ _ _ _ _ _ _ _ _ _ _ _ _ _ ?_
  intro j6 j7 j8 j13 j14 j15 j16 j17 j18 j19 j20 j21 j22 j23 j24 j25 j26 j27 j28 j29 j30 j31 j32 j33 j34 W0 hC
  clear HC
  have HC := Lib.hid hC; clear hC
  go_wp2
  rw [rounds_succ]
  go_upto_block 1 with (fail)
  refine joined4 w _ w.heap.size U g cap _ HC.out (by simp only [List.length_append, List.length_nil, HSz.out]; omega) hcap 1 (by omega) n1 x1 k1 f1 ((HC.out.below.cell (p := ⟨U, 1, none⟩) hU).trans (HU.out 1 n1 rfl)) ((HC.out.below.cell (p := ⟨g, 1, none⟩) hg).trans (HG.out 1 x1 rfl)) _ _ _ _ _ _ _ _ _ _ _ _ _ _ _ _ _ _ _ _ _ _ _ _ _ _ _ _ _ _ _ _ _ _ ?_
  intro j6 j7 j8 j13 j14 j15 j16 j17 j18 j19 j20 j21 j22 j23 j24 j25 j26 j27 j28 j29 j30 j31 j32 j33 j34 W1 hC
  clear HC
  have HC := Lib.hid hC; clear hC
  go_wp2
  rw [rounds_succ]
  go_upto_block 1 with (fail)
  refine joined4 w _ w.heap.size U g cap _ HC.out (by simp only [List.length_append, List.length_nil, HSz.out]; omega) hcap 2 (by omega) n2 x2 k2 f2 ((HC.out.below.cell (p := ⟨U, 2, none⟩) hU).trans (HU.out 2 n2 rfl)) ((HC.out.below.cell (p := ⟨g, 2, none⟩) hg).trans (HG.out 2 x2 rfl)) _ _ _ _ _ _ _ _ _ _ _ _ _ _ _ _ _ _ _ _ _ _ _ _ _ _ _ _ _ _ _ _ _ _ ?_
  intro j6 j7 j8 j13 j14 j15 j16 j17 j18 j19 j20 j21 j22 j23 j24 j25 j26 j27 j28 j29 j30 j31 j32 j33 j34 W2 hC
  clear HC
  have HC := Lib.hid hC; clear hC
  go_wp2
  rw [rounds_succ]
  go_upto_block 1 with (fail)
  refine joined4 w _ w.heap.size U g cap _ HC.out (by simp only [List.length_append, List.length_nil, HSz.out]; omega) hcap 3 (by omega) n3 x3 k3 f3 ((HC.out.below.cell (p := ⟨U, 3, none⟩) hU).trans (HU.out 3 n3 rfl)) ((HC.out.below.cell (p := ⟨g, 3, none⟩) hg).trans (HG.out 3 x3 rfl)) _ _ _ _ _ _ _ _ _ _ _ _ _ _ _ _ _ _ _ _ _ _ _ _ _ _ _ _ _ _ _ _ _ _ ?_
  intro j6 j7 j8 j13 j14 j15 j16 j17 j18 j19 j20 j21 j22 j23 j24 j25 j26 j27 j28 j29 j30 j31 j32 j33 j34 W3 hC
  clear HC
  have HC := Lib.hid hC; clear hC
  go_wp2
  rw [rounds_succ]
  go_upto_block 1 with (fail)
  refine joined4 w _ w.heap.size U g cap _ HC.out (by simp only [List.length_append, List.length_nil, HSz.out]; omega) hcap 4 (by omega) n4 x4 k4 f4 ((HC.out.below.cell (p := ⟨U, 4, none⟩) hU).trans (HU.out 4 n4 rfl)) ((HC.out.below.cell (p := ⟨g, 4, none⟩) hg).trans (HG.out 4 x4 rfl)) _ _ _ _ _ _ _ _ _ _ _ _ _ _ _ _ _ _ _ _ _ _ _ _ _ _ _ _ _ _ _ _ _ _ ?_
  intro j6 j7 j8 j13 j14 j15 j16 j17 j18 j19 j20 j21 j22 j23 j24 j25 j26 j27 j28 j29 j30 j31 j32 j33 j34 W4 hC
  clear HC
  have HC := Lib.hid hC; clear hC
  go_wp2
  rw [rounds_succ]
  go_wp2_with fail
  refine (string_any w _ (acc5 (cellM 0 n0 x0) (cellM 1 n1 x1) (cellM 2 n2 x2) (cellM 3 n3 x3) (cellM 4 n4 x4)) _ HC.out).mono ?_
  rintro e w2 ⟨rfl, hB⟩
  have hq1 : (mkB (acc5 (cellM 0 n0 x0) (cellM 1 n1 x1) (cellM 2 n2 x2) (cellM 3 n3 x3) (cellM 4 n4 x4))).size ≤ 100000 := by
    show (acc5 _ _ _ _ _).toArray.size ≤ _
    rw [List.size_toArray]; unfold acc5; simp only [List.length_append, List.length_nil, HSz.out]; omega
  have hq2 : ¬ 9223372036854775807 < (mkB (acc5 (cellM 0 n0 x0) (cellM 1 n1 x1) (cellM 2 n2 x2) (cellM 3 n3 x3) (cellM 4 n4 x4))).size + 1 := by omega
  go_wp2
  go_ret
  exact ⟨line_ret _ _ _ _ _ _ HL.out, HC.out.below.trans hB⟩
end Go.Proofs.YtajccjbigcdkbaaGreatDoor
