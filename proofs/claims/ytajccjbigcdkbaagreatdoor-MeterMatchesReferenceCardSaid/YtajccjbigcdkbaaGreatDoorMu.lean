/- A report: its lines. -/
import Derived.Test.YtajccjbigcdkbaaGreatDoorMt
import Derived.Test.YtajccjbigcdkbaaGreatDoorMq
import Derived.RangeFuncFrom
import Derived.RangeFuncCalls
-- USEBDN
set_option linter.unusedSimpArgs false
set_option linter.unusedVariables false
namespace Go.Proofs.YtajccjbigcdkbaaGreatDoor
open Go.ChangeShapes Go.WideShapes Go.ChangeAt Go.RowKit Go.Shelf
attribute [local go_sem] Oper.semAt_some
theorem keeps_of_below {W W' : World} (h : Below W.heap.size W W') : KeepsOthers W W' := ⟨h.size, fun k o hk _ => by rw [h.block k (Mild.lt_of_block hk)]; exact hk⟩
theorem keeps_of_kept {e : TypeId} {b : Nat} {W W' : World} (h : Lib.OthersKept e (some b) W W') (hs : W.heap.size ≤ W'.heap.size) (hb : ∃ c T fz, W.heap[b]? = some (.cells c T fz)) : KeepsOthers W W' :=
  ⟨hs, fun k o hk ho => h k o hk (fun e => by cases e; obtain ⟨c, T, fz, hc⟩ := hb; rw [hk] at hc; cases hc; simp [Obj.isCells] at ho) (fun c fz e => by subst e; simp [Obj.isCells] at ho)⟩
theorem builderF_block {T e : TypeId} {B b : Nat} {bs : List Value} {w : World} (h : Lib.IsBuilderF T e B b bs w) : ∃ c T fz, w.heap[b]? = some (.cells c T fz) := by
  rcases h with ⟨_, v, hb, _⟩ | ⟨_, v, hb, _⟩ <;> exact ⟨_, _, _, hb⟩
theorem rowF_kept {w w' : World} {base : Nat} {e : TypeId} {v : Value} {n : Nat} {xs : List Value} {row : Option Nat} (h : w.ownsRowF base e 1 v n xs) (hg : w.grownBy w' row) (hr : ∀ r, row = some r → ∃ o : Obj, w.heap[r]? = some o ∧ o.isCells = false) : w'.ownsRowF base e 1 v n xs := by
  refine h.kept hg ?_
  rcases h.2 with ⟨rfl, _⟩ | ⟨g, cap, cur, fz, rfl, _, hgb, _⟩
  · exact .inl rfl
  · refine .inr fun e' => ?_
    obtain ⟨o, ho, hc⟩ := hr g (by simpa [Value.ownBlock] using e'.symm)
    rw [hgb] at ho; cases ho; cases hc
theorem builderF_kept {T e : TypeId} {B b : Nat} {bs : List Value} {w w' : World} {row : Option Nat} (h : Lib.IsBuilderF T e B b bs w) (hg : w.grownBy w' row) (hr : ∀ r, row = some r → ∃ o : Obj, w.heap[r]? = some o ∧ o.isCells = false) : Lib.IsBuilderF T e B b bs w' := by
  have one : ∀ p, Lib.BuilderAtF T e B b p bs w → Lib.BuilderAtF T e B b p bs w' := fun p ⟨h1, v, h2, h3, h4⟩ => by
    refine ⟨h1, v, ?_, rowF_kept h3 hg hr, h4⟩
    rw [hg.block b (Mild.lt_of_block h2) (fun e => by obtain ⟨o, ho, hc⟩ := hr b e.symm; rw [h2] at ho; cases ho; cases hc)]
    exact h2
  exact h.imp (one _) (one _)
theorem rowF_below {w w' : World} {base : Nat} {e : TypeId} {v : Value} {n : Nat} {xs : List Value} (h : w.ownsRowF base e 1 v n xs) (hb : Below w.heap.size w w') : w'.ownsRowF base e 1 v n xs := by
  refine ⟨h.1, ?_⟩
  rcases h.2 with hn | ⟨g, cap, cur, fz, rfl, hb', hgg, rest⟩
  · exact .inl hn
  · refine .inr ⟨g, cap, cur, fz, rfl, hb', ?_, rest⟩
    rw [hb.block g (Mild.lt_of_block hgg)]; exact hgg
theorem builderF_below {T e : TypeId} {B b : Nat} {bs : List Value} {w w' : World} (h : Lib.IsBuilderF T e B b bs w) (hb : Below w.heap.size w w') : Lib.IsBuilderF T e B b bs w' := by
  have one : ∀ p, Lib.BuilderAtF T e B b p bs w → Lib.BuilderAtF T e B b p bs w' := fun p ⟨h1, v, h2, h3, h4⟩ =>
    ⟨h1, v, by rw [hb.block b (Mild.lt_of_block h2)]; exact h2, rowF_below h3 hb, h4⟩
  exact h.imp (one _) (one _)
/-- What lines have come. -/
def accM {n : Nat} (ms : List Int) (rows : List (List ByteArray)) (pre : List (Fin n)) : List UInt8 := pre.flatMap fun i => lineL 0 ms (rows.getD i.val [])
theorem acc_snoc {n : Nat} (ms : List Int) (rows : List (List ByteArray)) (pre : List (Fin n)) (x : Fin n) : accM ms rows (pre ++ [x]) = accM ms rows pre ++ lineL 0 ms (rows.getD x.val []) := by simp [accM]
theorem acc_all (ms : List Int) (rows : List (List ByteArray)) : accM (n := rows.length) ms rows (List.finRange rows.length) = rows.flatMap (lineL 0 ms) := by
  unfold accM
  have : rows = (List.finRange rows.length).map fun i => rows.getD i.val [] := by
    apply List.ext_getElem
    · simp
    · intro i h1 h2; simp [h1]
  conv => rhs; rw [this]
  rw [List.flatMap_map]
theorem line_len (ms : List Int) (xs : List ByteArray) (hm : ms.length = 5) (hx : xs.length = 5) (hf : Fits ms xs) : (lineL 0 ms xs).length ≤ 6000 := by
  obtain ⟨n0, n1, n2, n3, n4, rfl⟩ := five hm
  obtain ⟨x0, x1, x2, x3, x4, rfl⟩ := five hx
  have hsz : ∀ x : ByteArray, x.data.toList.length = x.size := fun x => by rw [Array.length_toList]; rfl
  have h : ∀ i n x, (x.size : Int) ≤ n ∧ n ≤ 1000 → (cellM i n x).size ≤ 1002 := fun i n x h => by have := cell_size i n x h.1; omega
  have s0 := h 0 n0 x0 (hf 0 _ _ rfl rfl)
  have s1 := h 1 n1 x1 (hf 1 _ _ rfl rfl)
  have s2 := h 2 n2 x2 (hf 2 _ _ rfl rfl)
  have s3 := h 3 n3 x3 (hf 3 _ _ rfl rfl)
  have s4 := h 4 n4 x4 (hf 4 _ _ rfl rfl)
  rw [show lineL 0 [n0, n1, n2, n3, n4] [x0, x1, x2, x3, x4] = (cellM 0 n0 x0).data.toList ++ ((cellM 1 n1 x1).data.toList ++ ((cellM 2 n2 x2).data.toList ++ ((cellM 3 n3 x3).data.toList ++ ((cellM 4 n4 x4).data.toList ++ [10])))) from rfl]
  simp only [List.length_append, hsz, List.length_cons, List.length_nil]
  omega
theorem acc_len {n : Nat} (ms : List Int) (rows : List (List ByteArray)) (hn : n = rows.length) (h : ∀ r ∈ rows, (lineL 0 ms r).length ≤ 6000) : ∀ pre : List (Fin n), (accM ms rows pre).length ≤ pre.length * 6000
  | [] => by simp [accM]
  | x :: pre => by
    have ih := acc_len ms rows hn h pre
    have hx : x.val < rows.length := by rw [← hn]; exact x.isLt
    have h1 := h (rows.getD x.val []) (by rw [List.getD_eq_getElem?_getD, List.getElem?_eq_getElem hx]; exact List.getElem_mem hx)
    simp only [accM, List.flatMap_cons, List.length_append, List.length_cons] at ih ⊢
    omega
end Go.Proofs.YtajccjbigcdkbaaGreatDoor
