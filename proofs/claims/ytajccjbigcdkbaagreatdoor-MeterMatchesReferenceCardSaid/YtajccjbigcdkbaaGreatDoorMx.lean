/- A report. -/
import Derived.Test.YtajccjbigcdkbaaGreatDoorMv
import Derived.Test.YtajccjbigcdkbaaGreatDoorMw
-- USEBDN
set_option linter.unusedSimpArgs false
set_option linter.unusedVariables false
namespace Go.Proofs.YtajccjbigcdkbaaGreatDoor
open Go.ChangeShapes Go.WideShapes Go.ChangeAt Go.RowKit Go.Shelf
theorem post_m {P : Program} {fn : Func} {R : Ending → World → Prop} {a : Act} {w : World} {v : Value} (hr : (results fn a.tmps).run P w = .ok v w) (hd : a.defers = []) (hR : R (.returned v) w) : bodyPostM Fence.wide 3 P fn R .ret a w := by
  show LeavesInM Fence.wide 3 P fn a.tmps R a.defers .returning w
  rw [hd]
  exact ⟨v, hr, hR⟩
theorem results45 {tmps : Array Value} {x y : Value} {w : World} (h4 : tmps[4]? = some x) (h5 : tmps[5]? = some y) : (results Tryz.f34 tmps).run Tryz.prog w = .ok (.tuple #[x, y]) w := by
  simp [results, Tryz.results34, go_sem, h4, h5]
theorem ret_rep {names : List ByteArray} {cs : List Co} {s : ByteArray} {e : Int} (h1 : reportT names cs = s) (h2 : reportE names cs = e) : Ending.returned (.tuple #[.string s, .int .i64 e]) = .returned (.tuple #[.string (reportT names cs), .int .i64 (reportE names cs)]) := by rw [h1, h2]
theorem rep_bad1 {names : List ByteArray} {cs : List Co} (h : names.length ≠ cs.length ∨ 1000 < cs.length) : reportT names cs = ⟨#[]⟩ ∧ reportE names cs = 1 := by unfold reportT reportE; rw [if_pos h, if_pos h]; exact ⟨rfl, rfl⟩
theorem rep_bad2 {names : List ByteArray} {cs : List Co} (h : ¬ (names.length ≠ cs.length ∨ 1000 < cs.length)) (h2 : allOk names cs = false) : reportT names cs = ⟨#[]⟩ ∧ reportE names cs = 1 := by unfold reportT reportE; rw [if_neg h, if_neg h, if_pos h2, if_pos h2]; exact ⟨rfl, rfl⟩
theorem rep_bad3 {names : List ByteArray} {cs : List Co} (h : ¬ (names.length ≠ cs.length ∨ 1000 < cs.length)) (h2 : allOk names cs = true) (h3 : plainB (sumM cs) = false) : reportT names cs = ⟨#[]⟩ ∧ reportE names cs = 2 := by unfold reportT reportE; simp only [if_neg h, h2, h3, if_pos]; exact ⟨rfl, rfl⟩
theorem rep_good {names : List ByteArray} {cs : List Co} (h : ¬ (names.length ≠ cs.length ∨ 1000 < cs.length)) (h2 : allOk names cs = true) (h3 : plainB (sumM cs) = true) : reportT names cs = reportS names cs ∧ reportE names cs = 0 := by unfold reportT reportE; simp only [if_neg h, h2, h3]; exact ⟨rfl, rfl⟩
theorem body_take {names : List ByteArray} {cs : List Co} {k : Nat} {x : ByteArray} {c : Co} (hx : names[k]? = some x) (hc : cs[k]? = some c) : (headM :: (bodyM names cs).take k) ++ [rowM x c] = headM :: (bodyM names cs).take (k + 1) := by
  have h : (bodyM names cs)[k]? = some (rowM x c) := by unfold bodyM; rw [List.getElem?_zipWith, hx, hc]
  rw [List.take_add_one, h]; rfl
theorem ok_at {names : List ByteArray} {cs : List Co} (h : allOk names cs = true) {k : Nat} {x : ByteArray} {c : Co} (hx : names[k]? = some x) (hc : cs[k]? = some c) : okM1 x c = true := by
  unfold allOk at h
  have := List.all_eq_true.1 h (okM1 x c) (List.mem_of_getElem? (i := k) (by rw [List.getElem?_zipWith, hx, hc]))
  exact this
theorem ok_not {names : List ByteArray} {cs : List Co} {k : Nat} {x : ByteArray} {c : Co} (hx : names[k]? = some x) (hc : cs[k]? = some c) (h : okM1 x c = false) : allOk names cs = false := by
  cases ha : allOk names cs with
  | false => rfl
  | true => rw [ok_at ha hx hc] at h; cases h
theorem ok_all {names : List ByteArray} {cs : List Co} (h : ∀ (k : Nat) x c, names[k]? = some x → cs[k]? = some c → okM1 x c = true) : allOk names cs = true := by
  unfold allOk
  rw [List.all_eq_true]
  intro b hb
  obtain ⟨k, hk⟩ := List.mem_iff_getElem?.1 hb
  rw [List.getElem?_zipWith] at hk
  cases h1 : names[k]? with
  | none => rw [h1] at hk; cases hk
  | some x =>
    cases h2 : cs[k]? with
    | none => rw [h1, h2] at hk; cases hk
    | some c => rw [h1, h2] at hk; cases hk; exact h k x c h1 h2
set_option maxRecDepth 100000 in
set_option maxHeartbeats 4000000 in
theorem report_short (names : List ByteArray) (cs : List Co) (a b : Option Addr) (ca cb : Nat) (w : World) (h : names.length ≠ cs.length ∨ 1000 < cs.length) :
    Calls Tryz.prog 34 #[.slice a names.length ca, .slice b cs.length cb] w fun e w' => e = .returned (.tuple #[.string (reportT names cs), .int .i64 (reportE names cs)]) ∧ Below w.heap.size w w' := by
  have HN := Lib.hid (rep_bad1 h)
  by_cases hne : names.length = cs.length
  · have h2 : 1000 < cs.length := h.resolve_left (fun h => h hne)
    have ht : ((names.length : Int) != (cs.length : Int)) = false := by rw [hne]; simp
    have HE := Lib.hid hne
    clear h hne
    refine (callsIn_wide (n := 3)).1 ?_
    refine callsIn_of_wp_marks Tryz.func34 rfl trivial ?_ rfl
    simp only [Tryz.ntmps34, List.size_toArray, List.length_cons, List.length_nil, Nat.reduceAdd, Nat.reduceSub, Array.replicate_succ, Array.replicate_zero, List.push_toArray, List.append_toArray, List.nil_append, List.cons_append]
    refine wpIn_wide.2 ?_
    go_wp2
    exact post_m (results45 rfl rfl) rfl ⟨ret_rep HN.out.1 HN.out.2, Below.refl _ _⟩
  · have ht : ((names.length : Int) != (cs.length : Int)) = true := by rw [bne_iff_ne]; omega
    clear h
    refine (callsIn_wide (n := 3)).1 ?_
    refine callsIn_of_wp_marks Tryz.func34 rfl trivial ?_ rfl
    simp only [Tryz.ntmps34, List.size_toArray, List.length_cons, List.length_nil, Nat.reduceAdd, Nat.reduceSub, Array.replicate_succ, Array.replicate_zero, List.push_toArray, List.append_toArray, List.nil_append, List.cons_append]
    refine wpIn_wide.2 ?_
    go_wp2
    exact post_m (results45 rfl rfl) rfl ⟨ret_rep HN.out.1 HN.out.2, Below.refl _ _⟩
end Go.Proofs.YtajccjbigcdkbaaGreatDoor
