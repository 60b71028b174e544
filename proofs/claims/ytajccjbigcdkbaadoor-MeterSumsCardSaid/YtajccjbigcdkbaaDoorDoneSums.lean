/- MeterSums: the law returns true for every input; the row's listed variables are tied to the program's text. -/
import Derived.Test.YtajccjbigcdkbaaDoorLa
import Derived.Test.YtajccjbigcdkbaaDoorQq
import Derived.Test.YtajccjbigcdkbaaDoorTie
import Derived.Test.YtajccjbigcdkbaaDoorCards
import Derived.SevenTiedAt
set_option linter.unusedSimpArgs false
set_option linter.unusedVariables false
namespace Go.Proofs.YtajccjbigcdkbaaDoor
open Go.ChangeShapes Go.WideShapes Go.ChangeAt Go.RowKit

section
variable {H : Type} {enc : TypeId × Value → H} {w : World} {base : Nat} {spare : Nat → Bool} {held : Bool}
def threeD {H : Type} (x y z : Co) : DataW H := .agg [fourD x.a x.b x.c x.d, fourD y.a y.b y.c y.d, fourD z.a z.b z.c z.d]
theorem list3 {α : Type} {l : List α} (h : l.length = 3) : ∃ a b c, l = [a, b, c] := by
  rcases l with _ | ⟨a, _ | ⟨b, _ | ⟨c, _ | ⟨e, l⟩⟩⟩⟩ <;> simp at h
  exact ⟨a, b, c, rfl⟩
theorem list12 {α : Type} {l : List α} (h : l.length = 12) : ∃ a b c d a1 b1 c1 d1 a2 b2 c2 d2, l = [a, b, c, d, a1, b1, c1, d1, a2, b2, c2, d2] := by
  obtain ⟨a, b, c, d, e1⟩ := list4 (l := l.take 4) (by simp [h])
  obtain ⟨a1, b1, c1, d1, e2⟩ := list4 (l := (l.drop 4).take 4) (by simp [h])
  obtain ⟨a2, b2, c2, d2, e3⟩ := list4 (l := l.drop 8) (by simp [h])
  refine ⟨a, b, c, d, a1, b1, c1, d1, a2, b2, c2, d2, ?_⟩
  rw [← List.take_append_drop 4 l, ← List.take_append_drop 4 (l.drop 4), e1, e2]
  simp [e3]
set_option maxRecDepth 100000 in
theorem open_three {b0 : Nat} {r : Reach} {v : Value} {d : DataW H} {p : List MemPlace} (hv : Value.okWide Tryd.prog w r b0 23 v) (h : DataW.Trod enc Tryd.prog w base spare held 23 v d p) :
    ∃ x y z : Co, v = .agg (a12 x y z) ∧ d = threeD x y z ∧ p = [] ∧ Wf4 x ∧ Wf4 y ∧ Wf4 z := by
  have c22 : Tryd.prog.cellsOf 22 = 4 := by kernel_rfl
  have c23 : Tryd.prog.cellsOf 23 = 12 := by kernel_rfl
  obtain ⟨cs, rfl, hsz⟩ := okWide_arr Tryd.underlying23 hv
  obtain ⟨fuel, hf⟩ := h
  obtain ⟨xs, m, rfl, hx, hlen, hl, hel⟩ := DataW.trod_array Tryd.underlying23 hf
  rw [c23] at hlen
  obtain ⟨v0, v1, v2, v3, v4, v5, v6, v7, v8, v9, v10, v11, hcs⟩ := list12 hlen
  obtain ⟨y0, y1, y2, rfl⟩ := list3 hl
  have k0 := hel 0 (by omega); have k1 := hel 1 (by omega); have k2 := hel 2 (by omega)
  rw [hcs] at k0 k1 k2
  simp [c22] at k0 k1 k2
  obtain ⟨x, e0, rfl, wx⟩ := open_four k0
  obtain ⟨y, e1, rfl, wy⟩ := open_four k1
  obtain ⟨z, e2, rfl, wz⟩ := open_four k2
  simp only [List.cons.injEq, and_true] at e0 e1 e2
  obtain ⟨rfl, rfl, rfl, rfl⟩ := e0
  obtain ⟨rfl, rfl, rfl, rfl⟩ := e1
  obtain ⟨rfl, rfl, rfl, rfl⟩ := e2
  simp at hx
  obtain ⟨l⟩ := cs
  simp [Value.cells] at hcs
  subst hcs
  exact ⟨x, y, z, rfl, hx.1, hx.2, wx, wy, wz⟩
set_option maxRecDepth 100000 in
theorem shut_three {x y z : Co} (wx : Wf4 x) (wy : Wf4 y) (wz : Wf4 z) : DataW.Trod enc Tryd.prog w base spare held 23 (.agg (a12 x y z)) (threeD x y z) [] := by
  have c3 : Tryd.prog.cellsOf 3 = 1 := by kernel_rfl
  have c22 : Tryd.prog.cellsOf 22 = 4 := by kernel_rfl
  have c23 : Tryd.prog.cellsOf 23 = 12 := by kernel_rfl
  have r3 : List.range 3 = [0, 1, 2] := rfl
  have r4 : List.range 4 = [0, 1, 2, 3] := rfl
  obtain ⟨xa, xb, xc, xd⟩ := wx
  obtain ⟨ya, yb, yc, yd⟩ := wy
  obtain ⟨za, zb, zc, zd⟩ := wz
  refine ⟨3, ?_⟩
  simp [DataW.trod, Value.cells, Tryd.underlying23, Tryd.underlying22, Tryd.underlying3, c3, c22, c23, r3, r4, xa, xb, xc, xd, ya, yb, yc, yd, za, zb, zc, zd, threeD, fourD, a12]
end

set_option maxRecDepth 100000 in
theorem sums_lifted (os : Os) (started : os.Started) (H : Type) (enc : TypeId × Value → H) :
    ReturnsInHanded {} Tryd.checked os 3 .any (fun w args => (Rows.meterSumsSpec.pre enc Tryd.prog Tryd.f3 [] false w args ∧ laidMetH Tryd.prog listed w) ∧ sizedMet enc Tryd.prog Tryd.f3 (OpenSpec.ofChange Rows.meterSumsSpec) false w args)
      (Rows.meterSumsSpec.post enc Tryd.prog Tryd.f3 false true false false) := by
  refine returns_of_listed (C := Tryd.checked) (X := fun w _ => laidMetH Tryd.prog listed w) (fun _ _ _ hh h => h.of_heap hh) own0 started (by kernel_rfl) Tryd.func3
    (ChangeSpec.witness_shaped (enc := enc) (C := Tryd.checked) (os := os) (X := fun w _ => laidMetH Tryd.prog listed w) false (start os) #[.agg #[.int .i64 0, .int .i64 0, .int .i64 0, .int .i64 0, .int .i64 0, .int .i64 0, .int .i64 0, .int .i64 0, .int .i64 0, .int .i64 0, .int .i64 0, .int .i64 0], .int .u8 0] 8 (World.laidAll_os _ _ _) (start_shaped os _) (by kernel_rfl) (by kernel_rfl) (by kernel_rfl) (start_met os _)) ?_
  intro W base args ds gs before hval0 hW hL hsh
  have hval : ∀ (j : Nat) t v, Tryd.f3.params[j]? = some t → args[j]? = some v → Value.okWide Tryd.prog W .any base t v := hval0
  have hW' := hW
  obtain ⟨p, q, hA0, hV, rfl, hfz, hnd⟩ := hW
  have hA : DataW.TrodAll enc Tryd.prog W 0 (fun _ => true) true Tryd.f3.params.toList args.toList ds p := hA0
  rw [Tryd.params3] at hA hval
  obtain ⟨v0, vs0, d0, ds0, p0, q0, hargs, rfl, rfl, h0, r0⟩ := trodAll_cons hA
  obtain ⟨v1, vs1, d1, ds1, p1, q1, rfl, rfl, rfl, h1, r1⟩ := trodAll_cons r0
  obtain ⟨rfl, rfl, rfl⟩ := trodAll_nil r1
  obtain rfl : args = #[v0, v1] := by cases args; simp_all
  obtain ⟨rfl, rfl⟩ := trodVars_none hV
  obtain ⟨x, y, z, rfl, rfl, rfl, wx, wy, wz⟩ := open_three (hval 0 23 v0 rfl rfl) h0
  obtain ⟨a1, rfl, rfl, rfl, wa1⟩ := open_int Tryd.underlying5 (hval 1 5 v1 rfl rfl) h1
  clear hA0 hval0
  simp only [List.append_nil] at hW'
  have b1 := wf8 wa1
  obtain ⟨n, rfl⟩ : ∃ n : Nat, a1 = n := ⟨a1.toNat, by omega⟩
  refine (sums_walk x y z n (by omega) W (tabs_of_listed hL hsh)).mono fun e W' ⟨he, hg⟩ => ?_
  subst he
  exact ⟨_, rfl, post_plain hW' (fun _ _ _ => (trodAll_cons_mk (shut_bool Tryd.underlying4 _) trodAll_mk0)) (fun sp => trodAll_cons_mk (shut_three wx wy wz) (trodAll_cons_mk (shut_int Tryd.underlying5 wa1) trodAll_mk0)) (fun _ => rfl)
    hg (ok_one (by kernel_rfl) rfl (okWide_bool_mk Tryd.underlying4 _))⟩

theorem sums_proved : Rows.MeterSumsSaid :=
  OpenClaim.holds_of_wide 3 Tryd.f3 rfl rfl rfl rfl rfl rfl rfl ⟨rfl, rfl, rfl, rfl, rfl⟩ rfl rfl rfl rfl rfl (by kernel_rfl) Tryd.func3 (by kernel_rfl)
    (of_decide_eq_true (by kernel_rfl)) (by unfold Func.isWrapper; first | (rw [if_pos (by decide +kernel)]; kernel_rfl) | (rw [if_neg (by decide +kernel)]; exact ⟨rfl, rfl⟩))
    (fun os started H enc _ => sums_lifted os started H enc)

theorem sums_card : Rows.MeterSumsCardSaid :=
  Claim7.holds_tied_plain_at .later [] [.data, .data, .data, .data, .sentinel, .sentinel, .pinned] true (true, "bbf768d7aab3dd549f0b5a627c290795595818ceb0d567e3937261be1d1cb742") true
    sums_proved (fun _ h => by cases h) (by kernel_rfl) (fun _ h => by cases h) meterSums_row_tie rfl ⟨rfl, rfl⟩ (by kernel_rfl) rfl
    (fun f fn hf hfn => by
      obtain rfl : f = 3 := Option.some.inj ((show Tryd.prog.funcNamed "warpwright/warpwrightlaw38.MeterSums" = some 3 by kernel_rfl).symm.trans hf) |>.symm
      obtain rfl : fn = Tryd.f3 := (Option.some.inj (Tryd.func3.symm.trans hfn)).symm
      exact ⟨by kernel_rfl, fun j t ht => by
        rw [Tryd.params3] at ht
        have hm : t ∈ [23, 5] := by simpa using Array.mem_of_getElem? ht
        have hall : ([23, 5].all fun u => !Tryd.prog.wantsStandIn u) = true := by kernel_rfl
        exact (show Tryd.prog.wantsStandIn t = false by simpa using List.all_eq_true.1 hall t hm)⟩)
    (by kernel_rfl)
#print axioms sums_card
end Go.Proofs.YtajccjbigcdkbaaDoor
