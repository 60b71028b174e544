/- A list of costs grows by one, in place or in a new row. -/
import Derived.Test.YtajccjbigcdkbaaGreatDoorTg
import Derived.Test.YtajccjbigcdkbaaGreatDoorMi
import Derived.Test.YtajccjbigcdkbaaGreatDoorMe
import Derived.Laws.Append
import Derived.Maps.AppendAt
-- USEBDN
set_option linter.unusedSimpArgs false
set_option linter.unusedVariables false
namespace Go.Proofs.YtajccjbigcdkbaaGreatDoor
open Go.ChangeShapes Go.WideShapes Go.ChangeAt Go.RowKit
theorem infoCost : (Tryz.prog.info? 23).map (fun i => (i.zero, i.size, i.bytes)) = some (some (.agg #[.int .i64 0, .int .i64 0, .int .i64 0, .int .i64 0]), 4, 32) := by kernel_rfl
def cells4 (c : Co) : List Value := [.int .i64 c.a, .int .i64 c.b, .int .i64 c.c, .int .i64 c.d]
theorem flat4_len (l : List Co) : (l.flatMap cells4).length = l.length * 4 := by
  induction l with
  | nil => rfl
  | cons c l ih => rw [List.flatMap_cons, List.length_append, ih, List.length_cons]; simp [cells4]; omega
theorem flat4_get : ∀ (cs : List Co) (j : Nat) (h : j < cs.length), (cs.flatMap cells4)[j * 4]? = some (.int .i64 cs[j].a) ∧ (cs.flatMap cells4)[j * 4 + 1]? = some (.int .i64 cs[j].b) ∧ (cs.flatMap cells4)[j * 4 + 2]? = some (.int .i64 cs[j].c) ∧ (cs.flatMap cells4)[j * 4 + 3]? = some (.int .i64 cs[j].d)
  | c :: cs, 0, _ => by simp [List.flatMap_cons, cells4]
  | c :: cs, j + 1, h => by
    have := flat4_get cs j (by simpa using h)
    rw [List.flatMap_cons]
    have e : ∀ r, (j + 1) * 4 + r = (cells4 c).length + (j * 4 + r) := fun r => by simp [cells4]; omega
    have e0 := e 0
    simp only [Nat.add_zero] at e0
    rw [e0]
    simp only [Nat.add_assoc, List.getElem?_append_right (Nat.le_add_right _ _), Nat.add_sub_cancel_left, List.getElem_cons_succ]
    exact this
theorem addr_plain (b o k : Nat) : (⟨b, o, none⟩ : Addr).add k = ⟨b, o + k, none⟩ := by
  cases k <;> simp [Addr.add]
/-- Cells that begin with these costs. -/
def HasRow (cs : Array Value) (l : List Co) : Prop := ∀ (i : Nat) x, (l.flatMap cells4)[i]? = some x → cs[i]? = some x
theorem has_row4 {W : World} {b : Nat} {cs : Array Value} {l : List Co} (hb : W.heap[b]? = some (.cells cs 23)) (h : HasRow cs l) : Row4 W b 0 l := fun j hj => by
  obtain ⟨r1, r2, r3, r4⟩ := flat4_get l j hj
  have c := Mild.cell_of_block hb
  simp only [Nat.zero_add]
  exact ⟨(c _).trans (h _ _ r1), (c _).trans (h _ _ r2), (c _).trans (h _ _ r3), (c _).trans (h _ _ r4)⟩
theorem has_take {cs : Array Value} {l : List Co} {m : Nat} (h : cs.toList.take m = l.flatMap cells4) : HasRow cs l := fun i x hx => by
  rw [← h, List.getElem?_take] at hx
  split at hx
  · rw [← Array.getElem?_toList]; exact hx
  · cases hx
/-- All is as it was, and new memory; one row may take its second form. -/
structure GrS (S : Nat) (Y : Prop) (X : Obj) (W W' : World) : Prop where
  os : W'.os = W.os
  tape : W'.tape = W.tape
  output : W'.output = W.output
  size : W.heap.size ≤ W'.heap.size
  block : ∀ k, k < W.heap.size → k ≠ S → W'.heap[k]? = W.heap[k]?
  row : S < W.heap.size → W'.heap[S]? = W.heap[S]? ∨ (Y ∧ W'.heap[S]? = some X)
def gwS (S : Nat) (Y : Prop) (X : Obj) : Tellg.Gw :=
  ⟨GrS S Y X, fun w => ⟨rfl, rfl, rfl, Nat.le_refl _, fun _ _ _ => rfl, fun _ => .inl rfl⟩, fun _ _ h => h.size, fun w => ⟨rfl, rfl, rfl, Nat.le_refl _, fun _ _ _ => rfl, fun _ => .inl rfl⟩⟩
theorem grs_below {S : Nat} {Y : Prop} {X : Obj} {W W' : World} (h : Below W.heap.size W W') : (gwS S Y X).rel W W' :=
  ⟨h.os, h.tape, h.output, h.size, fun k hk _ => h.block k hk, fun hS => .inl (h.block S hS)⟩
/-- The row's second form. -/
def upd (cur : Array Value) (n : Nat) (p : Co) : Array Value := (cur.toList.take (n * 4) ++ cells4 p ++ cur.toList.drop (n * 4 + 4)).toArray
/-- A list with one cost more. -/
def IsApp (S : Nat) (Y : Prop) (X : Obj) (l : List Co) (v : Value) (lo hi : Nat) (W : World) : Prop :=
  ∃ b cap cs, v = .slice (some ⟨b, 0, none⟩) l.length cap ∧ W.heap[b]? = some (.cells cs 23) ∧ HasRow cs l ∧ (b = S → Y ∧ X = .cells cs 23)
theorem app_stays {S : Nat} {Y : Prop} {X : Obj} {l : List Co} {v : Value} {lo hi lo' hi' : Nat} {W W' : World} (h : IsApp S Y X l v lo hi W) (hg : (gwS S Y X).rel W W') : IsApp S Y X l v lo' hi' W' := by
  obtain ⟨b, cap, cs, h1, h2, h3, h4⟩ := h
  have hlt := Mild.lt_of_block h2
  have hg' : GrS S Y X W W' := hg
  refine ⟨b, cap, cs, h1, ?_, h3, h4⟩
  by_cases hb : b = S
  · subst hb
    rcases hg'.row hlt with e | ⟨_, e⟩
    · rw [e]; exact h2
    · rw [e, (h4 rfl).2]
  · rw [hg'.block b hlt hb]; exact h2
theorem app_small {W : World} {S n c : Nat} {cur : Array Value} {ss : List Co} {p : Co} (ty : TypeId) (hss : ss.length = n) (hn : n ≤ 1000) (hcur : cur.size = c * 4) (hnc : n ≤ c) (htk : cur.toList.take (n * 4) = ss.flatMap cells4)
    (hS : W.heap[S]? = some (.cells cur 23) ∨ (n + 1 ≤ c ∧ W.heap[S]? = some (.cells (upd cur n p) 23))) {b1 : Nat} (hb1 : W.heap[b1]? = some (.cells (coc p) 23)) :
    ∃ v' w', (Builtin.append_ #[38, 38] ty #[.slice (some ⟨S, 0, none⟩) n c, .slice (some ⟨b1, 0, none⟩) 1 1]).run Tryz.prog W = .ok v' w' ∧ (gwS S (n + 1 ≤ c) (.cells (upd cur n p) 23)).rel W w' ∧
      IsApp S (n + 1 ≤ c) (.cells (upd cur n p) 23) (ss ++ [p]) v' W.heap.size w'.heap.size w' := by
  obtain ⟨ti, hi9, hz0, hz1, hz2⟩ := info_parts infoCost
  have hcl : cur.toList.length = c * 4 := by rw [Array.length_toList]; exact hcur
  have htl : (cur.toList.take (n * 4)).length = n * 4 := by rw [List.length_take]; omega
  have hfl : (ss.flatMap cells4).length = n * 4 := by rw [flat4_len, hss]
  have hll : (ss ++ [p]).length = n + 1 := by rw [List.length_append, hss]; rfl
  have hupr : HasRow (upd cur n p) (ss ++ [p]) := fun i x hx => by
    rw [List.flatMap_append, ← htk] at hx
    have hlt := (List.getElem?_eq_some_iff.1 hx).1
    unfold upd
    rw [List.getElem?_toArray, List.getElem?_append_left (by simpa [List.flatMap] using hlt)]
    simpa [List.flatMap] using hx
  have hnews : ∀ j u, (cells4 p)[j]? = some u → W.cell? ((⟨b1, 0, none⟩ : Addr).add j) = some u := fun j u hu => by
    rw [addr_plain, Nat.zero_add, Mild.cell_of_block hb1]
    simpa [cells4, ← List.getElem?_toArray] using hu
  have hone : ∀ u ∈ cells4 p, u.oneCell' = true := fun u hu => by
    simp only [cells4, List.mem_cons, List.not_mem_nil, or_false] at hu
    rcases hu with rfl | rfl | rfl | rfl <;> rfl
  obtain ⟨cu, hcu, hsz, htake, hdrop⟩ : ∃ cu : Array Value, W.heap[S]? = some (.cells cu 23) ∧ (n + 1 ≤ c → cu.size = c * 4) ∧ cu.toList.take (n * 4) = ss.flatMap cells4 ∧ (n + 1 ≤ c → cu.toList.drop (n * 4 + 4) = cur.toList.drop (n * 4 + 4)) := by
    rcases hS with h | ⟨hy, h⟩
    · exact ⟨cur, h, fun _ => hcur, htk, fun _ => rfl⟩
    · have hlen4 : (cur.toList.take (n * 4) ++ cells4 p).length = n * 4 + 4 := by rw [List.length_append, htl]; rfl
      refine ⟨upd cur n p, h, fun _ => ?_, ?_, fun _ => ?_⟩
      · unfold upd
        rw [List.size_toArray, List.length_append, hlen4, List.length_drop, hcl]; omega
      · unfold upd
        rw [List.append_assoc, ← htk]
        exact List.take_left' htl
      · unfold upd
        exact List.drop_left' hlen4
  by_cases hroom : n + 1 ≤ c
  · have hr := run_append_room (P := Tryz.prog) W 38 ty 23 ti Tryz.underlying38 hi9 S n c cu hcu ⟨b1, 0, none⟩ 1 1 (cells4 p) (by rw [hz1]; rfl) hnews hone hroom (by rw [hz1, hsz hroom]; show n * 4 + 4 ≤ _; omega)
    have he : (cu.toList.take (n * ti.size) ++ cells4 p ++ cu.toList.drop (n * ti.size + (cells4 p).length)).toArray = upd cur n p := by
      unfold upd
      rw [hz1, show (cells4 p).length = 4 from rfl, hdrop hroom, htake, htk]
    rw [he] at hr
    have hlt := Mild.lt_of_block hcu
    refine ⟨_, _, hr, ⟨rfl, rfl, rfl, by simp [World.setRow], fun k _ hk => setRow_other W S k _ hk, fun _ => .inr ⟨hroom, setRow_heap W S cu _ _ _ hcu⟩⟩, S, c, upd cur n p, by rw [hll], setRow_heap W S cu _ _ _ hcu, hupr, fun _ => ⟨hroom, rfl⟩⟩
  · have hold : ∀ j v, (ss.flatMap cells4)[j]? = some v → W.cell? ((⟨S, 0, none⟩ : Addr).add j) = some v := fun j v hv => by
      rw [addr_plain, Nat.zero_add, Mild.cell_of_block hcu]
      exact has_take htake j v hv
    have hr := run_append_grow (P := Tryz.prog) W 38 ty 23 ti _ Tryz.underlying38 hi9 hz0 ⟨S, 0, none⟩ n c (ss.flatMap cells4) (by rw [hfl, hz1]) hold ⟨b1, 0, none⟩ 1 1 (cells4 p) (by rw [hz1]; rfl) hnews (by omega) (by omega) (growslice_fits (by omega) (by rw [hz2]; omega))
    have hlt := Mild.lt_of_block hcu
    refine ⟨_, _, hr, grs_below ((bdn (Below.refl _ _) 1).alloc (Nat.le_refl _) _), W.heap.size, _, _, by rw [hll], heap_alloc_new W.drew _, ?_, fun e => absurd e (by omega)⟩
    intro i x hx
    rw [List.flatMap_append] at hx
    have hlt2 := (List.getElem?_eq_some_iff.1 hx).1
    rw [← Array.getElem?_toList]
    simp only [Array.toList_append, List.append_assoc]
    rw [← List.append_assoc, List.getElem?_append_left (by simpa [List.flatMap] using hlt2)]
    simpa [List.flatMap] using hx
end Go.Proofs.YtajccjbigcdkbaaGreatDoor
