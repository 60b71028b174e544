/- A report: what it holds. -/
import Derived.Test.YtajccjbigcdkbaaGreatDoorMt
-- USEBDN
set_option linter.unusedSimpArgs false
set_option linter.unusedVariables false
namespace Go.Proofs.YtajccjbigcdkbaaGreatDoor
open Go.ChangeShapes Go.WideShapes Go.ChangeAt Go.RowKit
def headM : List ByteArray := [⟨#[110, 97, 109, 101]⟩, wd 0, wd 1, wd 2, wd 3]
def totalB : ByteArray := ⟨#[116, 111, 116, 97, 108]⟩
def bodyM (names : List ByteArray) (cs : List Co) : List (List ByteArray) := List.zipWith rowM names cs
def rowsM (names : List ByteArray) (cs : List Co) : List (List ByteArray) := (headM :: bodyM names cs) ++ [rowM totalB (sumM cs)]
def okM1 (x : ByteArray) (c : Co) : Bool := namedB x && plainB c
def allOk (names : List ByteArray) (cs : List Co) : Bool := (List.zipWith okM1 names cs).all id
def widM (rows : List (List ByteArray)) : List Int := rows.foldl widR [0, 0, 0, 0, 0]
def reportS (names : List ByteArray) (cs : List Co) : ByteArray := ⟨((rowsM names cs).flatMap (lineL 0 (widM (rowsM names cs)))).toArray⟩
/-- What Report returns. -/
def reportT (names : List ByteArray) (cs : List Co) : ByteArray :=
  if names.length ≠ cs.length ∨ 1000 < cs.length then ⟨#[]⟩ else if allOk names cs = false then ⟨#[]⟩ else if plainB (sumM cs) = false then ⟨#[]⟩ else reportS names cs
def reportE (names : List ByteArray) (cs : List Co) : Int :=
  if names.length ≠ cs.length ∨ 1000 < cs.length then 1 else if allOk names cs = false then 1 else if plainB (sumM cs) = false then 2 else 0
/-! ### The widths -/
def Small (r : List ByteArray) : Prop := r.length = 5 ∧ ∀ x ∈ r, x.size ≤ 1000
def Wide (ms : List Int) : Prop := ms.length = 5 ∧ ∀ m ∈ ms, 0 ≤ m ∧ m ≤ 1000
theorem wide0 : Wide [0, 0, 0, 0, 0] := ⟨rfl, by simp⟩
theorem widR_at (ms : List Int) (r : List ByteArray) (j : Nat) : (widR ms r)[j]? = match ms[j]?, r[j]? with | some m, some x => some (max m (x.size : Int)) | _, _ => none := by
  unfold widR
  rw [List.getElem?_zipWith]
  cases ms[j]? <;> cases r[j]? <;> rfl
theorem widR_len {ms : List Int} {r : List ByteArray} (h1 : ms.length = 5) (h2 : r.length = 5) : (widR ms r).length = 5 := by unfold widR; simp [h1, h2]
theorem widR_wide {ms : List Int} {r : List ByteArray} (h : Wide ms) (hr : Small r) : Wide (widR ms r) := by
  refine ⟨widR_len h.1 hr.1, fun m hm => ?_⟩
  obtain ⟨j, hj⟩ := List.mem_iff_getElem?.1 hm
  rw [widR_at] at hj
  cases h1 : ms[j]? with
  | none => rw [h1] at hj; cases hj
  | some a =>
    cases h2 : r[j]? with
    | none => rw [h1, h2] at hj; cases hj
    | some x =>
      rw [h1, h2] at hj
      cases hj
      have g1 := h.2 a (List.mem_of_getElem? h1)
      have g2 := hr.2 x (List.mem_of_getElem? h2)
      omega
def LeM (ms ns : List Int) : Prop := ∀ (j : Nat) m, ms[j]? = some m → ∃ n, ns[j]? = some n ∧ m ≤ n
theorem LeM.refl (ms : List Int) : LeM ms ms := fun j m h => ⟨m, h, Int.le_refl _⟩
theorem LeM.trans {a b c : List Int} (h : LeM a b) (k : LeM b c) : LeM a c := fun j m hm => by
  obtain ⟨n, hn, h1⟩ := h j m hm
  obtain ⟨p, hp, h2⟩ := k j n hn
  exact ⟨p, hp, by omega⟩
theorem widR_le {ms : List Int} {r : List ByteArray} (h1 : ms.length = 5) (h2 : r.length = 5) : LeM ms (widR ms r) := fun j m hm => by
  have hj : j < 5 := by rw [← h1]; exact (List.getElem?_eq_some_iff.1 hm).1
  refine ⟨max m ((r[j]'(by omega)).size : Int), by rw [widR_at, hm, List.getElem?_eq_getElem (by omega)], by omega⟩
theorem wid_all : ∀ (rows : List (List ByteArray)) (ms : List Int), Wide ms → (∀ r ∈ rows, Small r) → Wide (rows.foldl widR ms) ∧ LeM ms (rows.foldl widR ms) ∧ ∀ r ∈ rows, Fits (rows.foldl widR ms) r
  | [], ms, h, _ => ⟨h, LeM.refl _, fun r hr => by cases hr⟩
  | r :: rows, ms, h, hr => by
    have hr0 := hr r (List.mem_cons_self ..)
    have hw := widR_wide h hr0
    obtain ⟨g1, g2, g3⟩ := wid_all rows (widR ms r) hw (fun x hx => hr x (List.mem_cons_of_mem _ hx))
    refine ⟨g1, (widR_le h.1 hr0.1).trans g2, fun x hx => ?_⟩
    rcases List.mem_cons.1 hx with rfl | hx
    · intro j n y hn hy
      have hj : j < 5 := by rw [← hr0.1]; exact (List.getElem?_eq_some_iff.1 hy).1
      obtain ⟨p, hp, hle⟩ := g2 j (max (ms[j]'(by rw [h.1]; exact hj)) (y.size : Int)) (by rw [widR_at, hy, List.getElem?_eq_getElem (by rw [h.1]; exact hj)])
      rw [List.foldl_cons] at hn
      have hpn : p = n := Option.some.inj (hp.symm.trans hn)
      have := g1.2 n (List.mem_of_getElem? hn)
      omega
    · exact g3 x hx
theorem named_size {x : ByteArray} (h : namedB x = true) : x.size ≤ 40 := by
  unfold namedB at h
  simp only [Bool.and_eq_true, decide_eq_true_eq] at h
  exact h.1.2
theorem dig_size {n : Int} (h : In64 n) : (dig n).size ≤ 1000 := by
  have := Lib.itoa_length_le n h.1 h.2
  show (Lib.itoa n).toArray.size ≤ _
  rw [List.size_toArray]; omega
theorem row_small {x : ByteArray} {c : Co} (hx : x.size ≤ 40) (hc : Rng c) : Small (rowM x c) := by
  refine ⟨rfl, ?_⟩
  simp only [rowM, List.forall_mem_cons, List.not_mem_nil, false_imp_iff, implies_true, and_true]
  exact ⟨by omega, dig_size hc.ha, dig_size hc.hb, dig_size hc.hc, dig_size hc.hd⟩
theorem head_small : Small headM := by
  refine ⟨rfl, ?_⟩
  simp only [headM, List.forall_mem_cons, List.not_mem_nil, false_imp_iff, implies_true, and_true]
  exact ⟨by decide, by decide, by decide, by decide, by decide⟩
end Go.Proofs.YtajccjbigcdkbaaGreatDoor
