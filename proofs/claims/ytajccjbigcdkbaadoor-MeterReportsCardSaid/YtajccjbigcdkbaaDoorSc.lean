/- The layout of a report: plain laws. -/
import Derived.Test.YtajccjbigcdkbaaDoorSb
import Derived.Test.YtajccjbigcdkbaaDoorQc
-- USEBDN
set_option linter.unusedSimpArgs false
set_option linter.unusedVariables false
namespace Go.Proofs.YtajccjbigcdkbaaDoor
open Go.ChangeShapes Go.WideShapes Go.ChangeAt Go.RowKit
def bodyL : Nat → List Int → List ByteArray → List UInt8
  | i, n :: ns, x :: xs => (cellM i n x).data.toList ++ bodyL (i + 1) ns xs
  | _, _, _ => []
theorem line_body : ∀ (ns : List Int) (xs : List ByteArray) (i : Nat), lineL i ns xs = bodyL i ns xs ++ [10]
  | [], _, _ => by simp [lineL, bodyL]
  | _ :: _, [], _ => by simp [lineL, bodyL]
  | n :: ns, x :: xs, i => by simp [lineL, bodyL, line_body ns xs (i + 1)]
def lnB (ms : List Int) (r : List ByteArray) : ByteArray := mkB (bodyL 0 ms r)
theorem ln_data (ms : List Int) (r : List ByteArray) : (lnB ms r).data.toList = bodyL 0 ms r := rfl
theorem flat_rows (ms : List Int) (rows : List (List ByteArray)) : rows.flatMap (lineL 0 ms) = flat (rows.map (lnB ms)) := by
  unfold flat
  rw [List.flatMap_map]
  congr 1
  funext r
  rw [line_body, ln_data]
theorem pad_list (n : Int) : (padB n).data.toList = List.replicate n.toNat 32 := by
  show Lib.repeatL [32] n.toNat = _
  induction n.toNat with
  | zero => rfl
  | succ k ih => simp only [Lib.repeatL, ih, List.replicate_succ, List.singleton_append]
theorem cell_list0 (n : Int) (x : ByteArray) : (cellM 0 n x).data.toList = x.data.toList ++ List.replicate (n - x.size).toNat 32 := by
  unfold cellM
  rw [if_pos rfl, ByteArray.data_append, Array.toList_append, pad_list]
theorem cell_list1 (i : Nat) (n : Int) (x : ByteArray) : (cellM (i + 1) n x).data.toList = 32 :: 32 :: (List.replicate (n - x.size).toNat 32 ++ x.data.toList) := by
  unfold cellM
  rw [if_neg (by omega), ByteArray.data_append, ByteArray.data_append, Array.toList_append, Array.toList_append, pad_list]
  simp
theorem cell_no (b : UInt8) (hb : b ≠ 32) (i : Nat) (n : Int) (x : ByteArray) (hx : b ∉ x.data.toList) : b ∉ (cellM i n x).data.toList := by
  cases i with
  | zero => rw [cell_list0]; simp only [List.mem_append, List.mem_replicate, not_or, not_and]; exact ⟨hx, fun _ => hb⟩
  | succ i => rw [cell_list1]; simp only [List.mem_cons, List.mem_append, List.mem_replicate, not_or, not_and]; exact ⟨hb, hb, fun _ => hb, hx⟩
theorem body_no (b : UInt8) (hb : b ≠ 32) : ∀ (ns : List Int) (xs : List ByteArray) (i : Nat), (∀ x ∈ xs, b ∉ x.data.toList) → b ∉ bodyL i ns xs
  | [], _, _, _ => by simp [bodyL]
  | _ :: _, [], _, _ => by simp [bodyL]
  | n :: ns, x :: xs, i, h => by
    simp only [bodyL, List.mem_append, not_or]
    exact ⟨cell_no b hb i n x (h x (List.mem_cons_self ..)), body_no b hb ns xs (i + 1) fun y hy => h y (List.mem_cons_of_mem _ hy)⟩
theorem cell_len0 (n : Int) (x : ByteArray) (h : (x.size : Int) ≤ n) : (cellM 0 n x).data.toList.length = n.toNat := by
  rw [cell_list0, List.length_append, List.length_replicate, size_list]; omega
theorem cell_len1 (i : Nat) (n : Int) (x : ByteArray) (h : (x.size : Int) ≤ n) : (cellM (i + 1) n x).data.toList.length = n.toNat + 2 := by
  rw [cell_list1]; simp only [List.length_cons, List.length_append, List.length_replicate, size_list]; omega
theorem ln_size {n0 n1 n2 n3 n4 : Int} {r : List ByteArray} (hr : r.length = 5) (hf : Fits [n0, n1, n2, n3, n4] r) : (lnB [n0, n1, n2, n3, n4] r).size = n0.toNat + (n1.toNat + 2) + (n2.toNat + 2) + (n3.toNat + 2) + (n4.toNat + 2) := by
  obtain ⟨x0, x1, x2, x3, x4, rfl⟩ := five hr
  rw [← size_list, ln_data]
  simp only [bodyL, List.length_append, List.length_nil]
  rw [cell_len0 _ _ (hf 0 n0 x0 rfl rfl).1, cell_len1 0 _ _ (hf 1 n1 x1 rfl rfl).1, cell_len1 1 _ _ (hf 2 n2 x2 rfl rfl).1, cell_len1 2 _ _ (hf 3 n3 x3 rfl rfl).1, cell_len1 3 _ _ (hf 4 n4 x4 rfl rfl).1]
  omega
/-- A line begins with its first word and a blank. -/
theorem ln_first (n0 n1 n2 n3 n4 : Int) (x0 x1 x2 x3 x4 : ByteArray) : ∃ rest, (lnB [n0, n1, n2, n3, n4] [x0, x1, x2, x3, x4]).data.toList = x0.data.toList ++ 32 :: rest := by
  rw [ln_data]
  simp only [bodyL]
  rw [cell_list0, cell_list1]
  cases (n0 - x0.size).toNat with
  | zero => exact ⟨_, by simp; rfl⟩
  | succ k => exact ⟨_, by simp [List.replicate_succ]; rfl⟩
theorem rep_snoc (k : Nat) (x : List UInt8) : (32 : UInt8) :: (List.replicate k 32 ++ x) = List.replicate k 32 ++ 32 :: x := by
  induction k with
  | zero => rfl
  | succ k ih => simp only [List.replicate_succ, List.cons_append]; rw [ih]
/-- A line ends with a blank and its last word. -/
theorem ln_last (n0 n1 n2 n3 n4 : Int) (x0 x1 x2 x3 x4 : ByteArray) : ∃ pre, (lnB [n0, n1, n2, n3, n4] [x0, x1, x2, x3, x4]).data.toList = pre ++ 32 :: x4.data.toList := by
  rw [ln_data]
  simp only [bodyL, List.append_nil]
  rw [cell_list1 3 n4 x4, rep_snoc]
  exact ⟨(cellM 0 n0 x0).data.toList ++ ((cellM 1 n1 x1).data.toList ++ ((cellM 2 n2 x2).data.toList ++ ((cellM 3 n3 x3).data.toList ++ (32 :: List.replicate (n4 - x4.size).toNat 32)))), by simp⟩
/-! ### Rows in another order -/
theorem wid_swap (ms : List Int) (a b : List ByteArray) : widR (widR ms a) b = widR (widR ms b) a := by
  apply List.ext_getElem?
  intro j
  rw [widR_at, widR_at, widR_at, widR_at]
  cases ms[j]? <;> cases a[j]? <;> cases b[j]? <;> simp
  omega
theorem fold_perm {α β : Type} (f : β → α → β) (hf : ∀ s a b, f (f s a) b = f (f s b) a) {l l' : List α} (h : l.Perm l') : ∀ s, l.foldl f s = l'.foldl f s := by
  induction h with
  | nil => exact fun _ => rfl
  | cons x _ ih => exact fun s => ih _
  | swap x y l => exact fun s => by simp only [List.foldl_cons]; rw [hf]
  | trans _ _ h1 h2 => exact fun s => (h1 s).trans (h2 s)
theorem add_swap (a b c : Co) : addM (addM a b) c = addM (addM a c) b := by rw [add_assoc', add_comm' b c, ← add_assoc']
theorem wid_perm {a b : List (List ByteArray)} (h : a.Perm b) : widM a = widM b := fold_perm _ wid_swap h _
theorem sum_perm {a b : List Co} (h : a.Perm b) : sumM a = sumM b := fold_perm _ add_swap h _
theorem body_reverse {names : List ByteArray} {cs : List Co} (h : names.length = cs.length) : bodyM names.reverse cs.reverse = (bodyM names cs).reverse := by
  unfold bodyM
  rw [List.reverse_zipWith h]
theorem rows_perm {names : List ByteArray} {cs : List Co} (h : names.length = cs.length) : (rowsM names.reverse cs.reverse).Perm (rowsM names cs) := by
  unfold rowsM
  rw [body_reverse h, sum_perm (List.reverse_perm cs)]
  exact ((List.reverse_perm _).cons _).append_right _
end Go.Proofs.YtajccjbigcdkbaaDoor
