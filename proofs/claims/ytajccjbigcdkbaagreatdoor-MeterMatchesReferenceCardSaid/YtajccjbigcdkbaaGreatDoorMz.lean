/- The statement's own readings of Parse and Report; lines; the last word. -/
import Derived.Test.YtajccjbigcdkbaaGreatDoorMy
import Derived.Test.YtajccjbigcdkbaaGreatDoorMm
-- USEBDN
set_option linter.unusedSimpArgs false
set_option linter.unusedVariables false
namespace Go.Proofs.YtajccjbigcdkbaaGreatDoor
open Go.ChangeShapes Go.WideShapes Go.ChangeAt Go.RowKit
theorem report_any (names : List ByteArray) (cs : List Co) (an : Option Addr) (ncap lb lo lcap : Nat) (w : World) (ht : Tabs w) (hN : ∀ (j : Nat) x, names[j]? = some x → ∃ nb no, an = some ⟨nb, no, none⟩ ∧ nb < w.heap.size ∧ w.cell? ⟨nb, no + j, none⟩ = some (.string x)) (hlb : lb < w.heap.size) (hrow : Row4 w lb lo cs) :
    Calls Tryz.prog 34 #[.slice an names.length ncap, .slice (some ⟨lb, lo, none⟩) cs.length lcap] w fun e w' => e = .returned (.tuple #[.string (reportT names cs), .int .i64 (reportE names cs)]) ∧ Below w.heap.size w w' := by
  by_cases h : names.length ≠ cs.length ∨ 1000 < cs.length
  · exact report_short names cs _ _ _ _ w h
  · have h1 : names.length = cs.length := Classical.byContradiction fun e => h (.inl e)
    exact report_long names cs an ncap lb lo lcap w ht h1 (by omega) hN hlb hrow
abbrev parsedV (s : ByteArray) : Value := .agg #[.int .i64 (parseC s).a, .int .i64 (parseC s).b, .int .i64 (parseC s).c, .int .i64 (parseC s).d, .int .i64 (parseE s)]
theorem build38 (a b c d e : Int) (w : World) : (Instr.build 35 #[(0, .agg #[.int .i64 a, .int .i64 b, .int .i64 c, .int .i64 d]), (1, .int .i64 e)]).run Tryz.prog w = .ok (.agg #[.int .i64 a, .int .i64 b, .int .i64 c, .int .i64 d, .int .i64 e]) w := by kernel_rfl
theorem parsed_ce (s : ByteArray) (hs : s.size < 4294967281) (C : Co) (E : Int) (hCE : Hid (parseC s = C ∧ parseE s = E)) (w : World) (ht : Tabs w) :
    Calls Tryz.prog 15 #[.string s] w fun e w' => e = .returned (.agg #[.int .i64 C.a, .int .i64 C.b, .int .i64 C.c, .int .i64 C.d, .int .i64 E]) ∧ Below w.heap.size w w' := by
  have hT := Lib.hid ht; clear ht
  have hp : ∀ W, Tabs W → Calls Tryz.prog 31 #[.string s] W fun e w' => e = .returned (.tuple #[cov C, .int .i64 E]) ∧ Below W.heap.size W w' := fun W h => by
    have := parse_any s hs W h
    rwa [hCE.out.1, hCE.out.2] at this
  have HP := Lib.hid hp; clear hp
  go_enter Tryz.func15, Tryz.ntmps15
  go_wp2_with fail
  refine (HP.out _ (hT.out.below (by (repeat' (first | (with_reducible exact Below.refl _ _) | (with_reducible assumption) | (with_reducible refine Below.alloc ?_ ?_ _) | (with_reducible refine Below.drew ?_) | (with_reducible refine bdn ?_ _) | (with_reducible refine Below.setCell ?_ ?_ _) | go_size))))).mono ?_
  rintro e w1 ⟨rfl, hb⟩
  have bR : w1.heap[w.heap.size]? = some (.cells #[.int .i64 0, .int .i64 0, .int .i64 0, .int .i64 0, .int .i64 0] 35) := by rw [hb.block _ (by simp)]; exact Mild.alloc_at _ _
  have hB1 : Below w.heap.size w w1 := bup (w := w) (by (repeat' (first | (with_reducible exact Below.refl _ _) | (with_reducible assumption) | (with_reducible refine Below.alloc ?_ ?_ _) | (with_reducible refine Below.drew ?_) | (with_reducible refine bdn ?_ _) | (with_reducible refine Below.setCell ?_ ?_ _) | go_size))) hb (by go_size)
  go_upto_region 2 with (fail)
  have bR2 : (w1.alloc (.cells #[.int .i64 C.a, .int .i64 C.b, .int .i64 C.c, .int .i64 C.d] 23)).heap[w.heap.size]? = some (.cells #[.int .i64 0, .int .i64 0, .int .i64 0, .int .i64 0, .int .i64 0] 35) := Mild.alloc_lt _ bR
  have bC2 : (w1.alloc (.cells #[.int .i64 C.a, .int .i64 C.b, .int .i64 C.c, .int .i64 C.d] 23)).heap[w1.heap.size]? = some (.cells (coc C) 23) := Mild.alloc_at _ _
  have hB2 : Below w.heap.size w (w1.alloc (.cells #[.int .i64 C.a, .int .i64 C.b, .int .i64 C.c, .int .i64 C.d] 23)) := hB1.alloc (by have := hB1.size; omega) _
  clear bR hb hB1
  generalize w1.alloc (.cells #[.int .i64 C.a, .int .i64 C.b, .int .i64 C.c, .int .i64 C.d] 23) = w2 at *
  generalize w1.heap.size = cb at *
  have cR := Mild.cell_of_block bR2
  have fR := Mild.free_of_block bR2
  have cC := Mild.cell_of_block bC2
  clear bR2 bC2
  have hbu := build38 C.a C.b C.c C.d E
  go_wp2
  exact bodyPost_ret (v := .agg #[.int .i64 C.a, .int .i64 C.b, .int .i64 C.c, .int .i64 C.d, .int .i64 E]) (by simp [results, Tryz.results15, go_sem, *]) rfl ⟨rfl, by (repeat' (first | (with_reducible exact Below.refl _ _) | (with_reducible assumption) | (with_reducible refine Below.alloc ?_ ?_ _) | (with_reducible refine Below.drew ?_) | (with_reducible refine bdn ?_ _) | (with_reducible refine Below.setCell ?_ ?_ _) | go_size))⟩
theorem parsed_any (s : ByteArray) (hs : s.size < 4294967281) (w : World) (ht : Tabs w) :
    Calls Tryz.prog 15 #[.string s] w fun e w' => e = .returned (parsedV s) ∧ Below w.heap.size w w' := parsed_ce s hs _ _ (Lib.hid ⟨rfl, rfl⟩) w ht
theorem told_any (names : List ByteArray) (cs : List Co) (an : Option Addr) (ncap lb lo lcap : Nat) (w : World) (ht : Tabs w) (hN : ∀ (j : Nat) x, names[j]? = some x → ∃ nb no, an = some ⟨nb, no, none⟩ ∧ nb < w.heap.size ∧ w.cell? ⟨nb, no + j, none⟩ = some (.string x)) (hlb : lb < w.heap.size) (hrow : Row4 w lb lo cs) :
    Calls Tryz.prog 19 #[.slice an names.length ncap, .slice (some ⟨lb, lo, none⟩) cs.length lcap] w fun e w' => e = .returned (.agg #[.string (reportT names cs), .int .i64 (reportE names cs)]) ∧ Below w.heap.size w w' := by
  have B0 : ∀ o, Below w.heap.size w (w.alloc o) := fun o => (Below.refl _ _).alloc (Nat.le_refl _) _
  have hN2 : ∀ o (j : Nat) x, names[j]? = some x → ∃ nb no, an = some ⟨nb, no, none⟩ ∧ nb < (w.alloc o).heap.size ∧ (w.alloc o).cell? ⟨nb, no + j, none⟩ = some (.string x) := fun o j x hx => by
    obtain ⟨nb, no, h1, h2, h3⟩ := hN j x hx
    exact ⟨nb, no, h1, by simp; omega, ((B0 o).cell (p := ⟨nb, _, none⟩) h2).trans h3⟩
  have hR2 : ∀ o, Row4 (w.alloc o) lb lo cs := fun o j h => by
    obtain ⟨r1, r2, r3, r4⟩ := hrow j h
    exact ⟨((B0 o).cell (p := ⟨lb, _, none⟩) hlb).trans r1, ((B0 o).cell (p := ⟨lb, _, none⟩) hlb).trans r2, ((B0 o).cell (p := ⟨lb, _, none⟩) hlb).trans r3, ((B0 o).cell (p := ⟨lb, _, none⟩) hlb).trans r4⟩
  have HN2 := Lib.hid hN2
  have HR2 := Lib.hid hR2
  have HT := Lib.hid ht
  clear B0 hN2 hR2 ht hN hrow
  go_enter Tryz.func19, Tryz.ntmps19
  go_wp2_with fail
  refine (report_any names cs an ncap lb lo lcap _ (HT.out.below (by (repeat' (first | (with_reducible exact Below.refl _ _) | (with_reducible assumption) | (with_reducible refine Below.alloc ?_ ?_ _) | (with_reducible refine Below.drew ?_) | (with_reducible refine bdn ?_ _) | (with_reducible refine Below.setCell ?_ ?_ _) | go_size)))) (HN2.out _) (by simp; omega) (HR2.out _)).mono ?_
  obtain ⟨S, hS⟩ : ∃ S, reportT names cs = S := ⟨_, rfl⟩
  obtain ⟨E, hE⟩ : ∃ E, reportE names cs = E := ⟨_, rfl⟩
  rw [hS, hE]
  have HSE := Lib.hid (And.intro hS hE)
  clear hS hE
  rintro e w1 ⟨rfl, hb⟩
  have bR : w1.heap[w.heap.size]? = some (.cells #[.string ⟨#[]⟩, .int .i64 0] 40) := by rw [hb.block _ (by simp)]; exact Mild.alloc_at _ _
  have hB1 : Below w.heap.size w w1 := bup (w := w) (by (repeat' (first | (with_reducible exact Below.refl _ _) | (with_reducible assumption) | (with_reducible refine Below.alloc ?_ ?_ _) | (with_reducible refine Below.drew ?_) | (with_reducible refine bdn ?_ _) | (with_reducible refine Below.setCell ?_ ?_ _) | go_size))) hb (by go_size)
  have cR := Mild.cell_of_block bR
  have fR := Mild.free_of_block bR
  have lR := Mild.lt_of_block bR
  clear bR hb
  go_wp2
  exact bodyPost_ret (v := .agg #[.string S, .int .i64 E]) (by simp [results, Tryz.results19, go_sem, *]) rfl ⟨by rw [HSE.out.1, HSE.out.2], by (repeat' (first | (with_reducible exact Below.refl _ _) | (with_reducible assumption) | (with_reducible refine Below.alloc ?_ ?_ _) | (with_reducible refine Below.drew ?_) | (with_reducible refine bdn ?_ _) | (with_reducible refine Below.setCell ?_ ?_ _) | go_size))⟩
end Go.Proofs.YtajccjbigcdkbaaGreatDoor
