/- Sum. -/
import Derived.Test.YtajccjbigcdkbaaGreatDoorMd
-- USEBDN
set_option linter.unusedSimpArgs false
set_option linter.unusedVariables false
namespace Go.Proofs.YtajccjbigcdkbaaGreatDoor
open Go.ChangeShapes Go.WideShapes Go.ChangeAt Go.RowKit
def zeroM : Co := ⟨0, 0, 0, 0⟩
def sumM (l : List Co) : Co := l.foldl addM zeroM
theorem sum_take (l : List Co) (k : Nat) (h : k < l.length) : sumM (l.take (k + 1)) = addM (sumM (l.take k)) l[k] := by
  unfold sumM
  rw [List.take_succ_eq_append_getElem h, List.foldl_append]; rfl
/-- Costs lie in a row. -/
def Row4 (W : World) (b off : Nat) (l : List Co) : Prop := ∀ j (h : j < l.length), W.cell? ⟨b, off + j * 4, none⟩ = some (.int .i64 l[j].a) ∧ W.cell? ⟨b, off + j * 4 + 1, none⟩ = some (.int .i64 l[j].b) ∧ W.cell? ⟨b, off + j * 4 + 2, none⟩ = some (.int .i64 l[j].c) ∧ W.cell? ⟨b, off + j * 4 + 3, none⟩ = some (.int .i64 l[j].d)

set_option maxRecDepth 20000 in
set_option maxHeartbeats 1000000 in
theorem sum_any (b off cap : Nat) (l : List Co) (w : World) (hb0 : b < w.heap.size) (hl : l.length ≤ 9223372036854775807) (hrow : Row4 w b off l) :
    Calls Tryz.prog 17 #[.slice (some ⟨b, off, none⟩) l.length cap] w fun e w' => e = .returned (cov (sumM l)) ∧ Below w.heap.size w w' := by
  go_enter Tryz.func17, Tryz.ntmps17
  go_wp2
  go_loopw [8] (fun i wr => ∃ k : Nat, k ≤ l.length ∧ i = .int .i64 k ∧ Hid (Mild.Bks w.heap.size w [(w.heap.size, .cells (coc zeroM) 23), (w.heap.size + 1, .cells (coc (sumM (l.take k))) 23)] wr)) (fun i _ => l.length - (intOf i).toNat)
  case atStart =>
    refine ⟨0, Nat.zero_le _, rfl, Lib.hid ⟨by (repeat' (first | (with_reducible exact Below.refl _ _) | (with_reducible assumption) | (with_reducible refine Below.alloc ?_ ?_ _) | (with_reducible refine Below.drew ?_) | (with_reducible refine bdn ?_ _) | (with_reducible refine Below.setCell ?_ ?_ _) | go_size)), by go_size, ?_⟩⟩
    simp only [List.forall_mem_cons, List.not_mem_nil, false_imp_iff, implies_true, and_true]
    exact ⟨Mild.alloc_lt _ (Mild.alloc_at _ _), by have := Mild.alloc_at (w.alloc (.cells (coc zeroM) 23)) (.cells (coc zeroM) 23); rw [World.size_alloc] at this; exact this⟩
  case round =>
    obtain ⟨k, hk, rfl, hC⟩ := hrel
    by_cases hlt : k < l.length
    · have hr := hrow k hlt
      obtain ⟨r1, r2, r3, r4⟩ := hr
      have hBl := hC.out.below
      have hz := hC.out.big
      have hbs := hC.out.blocks
      simp only [List.forall_mem_cons, List.not_mem_nil, false_imp_iff, implies_true, and_true] at hbs
      obtain ⟨bR, bO⟩ := hbs
      rw [← hBl.cell (p := ⟨b, _, none⟩) hb0] at r1 r2 r3 r4
      have cO := Mild.cell_of_block bO
      have fO := Mild.free_of_block bO
      have lO := Mild.lt_of_block bO
      have hrec := Lib.hid (sum_take l k hlt)
      go_wp2_with (go_at_call 7; refine (add_any (sumM (l.take k)) l[k] _).mono ?_; rintro e w3 ⟨rfl, hb⟩; have hz3 := hb.size; (try simp at hz3); have bO3 : w3.heap[w.heap.size + 1]? = some (.cells (coc (sumM (l.take k))) 23) := (by rw [hb.block _ (by go_size)]; repeat (first | exact bO | refine Mild.set_ne ?_ (by omega) | refine Mild.alloc_lt _ ?_)); have bR3 : w3.heap[w.heap.size]? = some (.cells (coc zeroM) 23) := (by rw [hb.block _ (by go_size)]; repeat (first | exact bR | refine Mild.set_ne ?_ (by omega) | refine Mild.alloc_lt _ ?_)); have cO3 := Mild.cell_of_block bO3; have fO3 := Mild.free_of_block bO3; have hB3 : Below w.heap.size w w3 := bup (w := w) (by (repeat' (first | (with_reducible exact Below.refl _ _) | (with_reducible assumption) | (with_reducible refine Below.alloc ?_ ?_ _) | (with_reducible refine Below.drew ?_) | (with_reducible refine bdn ?_ _) | (with_reducible refine Below.setCell ?_ ?_ _) | go_size))) hb (by go_size); clear hb)
      go_roundw
      case rel =>
        refine ⟨k + 1, by omega, by go_num, Lib.hid ⟨by (repeat' (first | (with_reducible exact Below.refl _ _) | (with_reducible assumption) | (with_reducible refine Below.alloc ?_ ?_ _) | (with_reducible refine Below.drew ?_) | (with_reducible refine bdn ?_ _) | (with_reducible refine Below.setCell ?_ ?_ _) | go_size)), by go_size, ?_⟩⟩
        simp only [List.forall_mem_cons, List.not_mem_nil, false_imp_iff, implies_true, and_true]
        refine ⟨by repeat (first | exact bR3 | refine Mild.set_ne ?_ (by omega)), ?_⟩
        rw [hrec.out]
        exact Joins.block_setCell (Joins.block_setCell (Joins.block_setCell (Joins.block_setCell bO3 _) _) _) _
      case measure => simp [intOf]; omega
    · obtain rfl : k = l.length := by omega
      have hBl := hC.out.below
      have hz := hC.out.big
      have hbs := hC.out.blocks
      simp only [List.forall_mem_cons, List.not_mem_nil, false_imp_iff, implies_true, and_true, List.take_length] at hbs
      obtain ⟨bR, bO⟩ := hbs
      have cO := Mild.cell_of_block bO
      have cR := Mild.cell_of_block bR
      have fR := Mild.free_of_block bR
      go_wp2
      exact bodyPost_ret (v := cov (sumM l)) (by simp [results, Tryz.results17, go_sem, *]) rfl ⟨rfl, by (repeat' (first | (with_reducible exact Below.refl _ _) | (with_reducible assumption) | (with_reducible refine Below.alloc ?_ ?_ _) | (with_reducible refine Below.drew ?_) | (with_reducible refine bdn ?_ _) | (with_reducible refine Below.setCell ?_ ?_ _) | go_size))⟩
theorem sum_nil (w : World) : Calls Tryz.prog 17 #[.slice none 0 0] w fun e w' => e = .returned (cov zeroM) ∧ Below w.heap.size w w' := by
  go_enter Tryz.func17, Tryz.ntmps17
  go_wp2
  refine wp_loop_rounds 1 ?_
  rw [rounds_succ]
  go_wp2
  exact bodyPost_ret (v := cov zeroM) (by simp [results, Tryz.results17, go_sem, *, zeroM]) rfl ⟨rfl, by (repeat' (first | (with_reducible exact Below.refl _ _) | (with_reducible assumption) | (with_reducible refine Below.alloc ?_ ?_ _) | (with_reducible refine Below.drew ?_) | (with_reducible refine bdn ?_ _) | (with_reducible refine Below.setCell ?_ ?_ _) | go_size))⟩
theorem sum_empty (b off cap : Nat) (w : World) : Calls Tryz.prog 17 #[.slice (some ⟨b, off, none⟩) 0 cap] w fun e w' => e = .returned (cov zeroM) ∧ Below w.heap.size w w' := by
  go_enter Tryz.func17, Tryz.ntmps17
  go_wp2
  refine wp_loop_rounds 1 ?_
  rw [rounds_succ]
  go_wp2
  exact bodyPost_ret (v := cov zeroM) (by simp [results, Tryz.results17, go_sem, *, zeroM]) rfl ⟨rfl, by (repeat' (first | (with_reducible exact Below.refl _ _) | (with_reducible assumption) | (with_reducible refine Below.alloc ?_ ?_ _) | (with_reducible refine Below.drew ?_) | (with_reducible refine bdn ?_ _) | (with_reducible refine Below.setCell ?_ ?_ _) | go_size))⟩
end Go.Proofs.YtajccjbigcdkbaaGreatDoor
