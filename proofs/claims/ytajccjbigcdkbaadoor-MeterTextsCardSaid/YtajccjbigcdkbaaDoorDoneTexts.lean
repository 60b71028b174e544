/- MeterTexts: the law returns true for every input; the row's listed variables are tied to the program's text. -/
import Derived.Test.YtajccjbigcdkbaaDoorLa
import Derived.Test.YtajccjbigcdkbaaDoorRe
import Derived.Test.YtajccjbigcdkbaaDoorTie
import Derived.Test.YtajccjbigcdkbaaDoorCards
import Derived.SevenTiedAt
set_option linter.unusedSimpArgs false
set_option linter.unusedVariables false
namespace Go.Proofs.YtajccjbigcdkbaaDoor
open Go.ChangeShapes Go.WideShapes Go.ChangeAt Go.RowKit

section
variable {H : Type} {enc : TypeId × Value → H} {w : World} {base : Nat} {spare : Nat → Bool} {held : Bool}
def twoD {H : Type} (x y : Co) : DataW H := .agg [fourD x.a x.b x.c x.d, fourD y.a y.b y.c y.d]
def bytesD {H : Type} (p q r : Int) : DataW H := .agg [.lit (.int .u8 p), .lit (.int .u8 q), .lit (.int .u8 r)]
theorem list2 {α : Type} {l : List α} (h : l.length = 2) : ∃ a b, l = [a, b] := by
  rcases l with _ | ⟨a, _ | ⟨b, _ | ⟨e, l⟩⟩⟩ <;> simp at h
  exact ⟨a, b, rfl⟩
theorem list3 {α : Type} {l : List α} (h : l.length = 3) : ∃ a b c, l = [a, b, c] := by
  rcases l with _ | ⟨a, _ | ⟨b, _ | ⟨c, _ | ⟨e, l⟩⟩⟩⟩ <;> simp at h
  exact ⟨a, b, c, rfl⟩
theorem list8 {α : Type} {l : List α} (h : l.length = 8) : ∃ a b c d a1 b1 c1 d1, l = [a, b, c, d, a1, b1, c1, d1] := by
  obtain ⟨a, b, c, d, e1⟩ := list4 (l := l.take 4) (by simp [h])
  obtain ⟨a1, b1, c1, d1, e2⟩ := list4 (l := l.drop 4) (by simp [h])
  refine ⟨a, b, c, d, a1, b1, c1, d1, ?_⟩
  rw [← List.take_append_drop 4 l, e1, e2]
  simp
set_option maxRecDepth 100000 in
theorem open_two {b0 : Nat} {r : Reach} {v : Value} {d : DataW H} {p : List MemPlace} (hv : Value.okWide Tryd.prog w r b0 33 v) (h : DataW.Trod enc Tryd.prog w base spare held 33 v d p) :
    ∃ x y : Co, v = .agg (a8 x y) ∧ d = twoD x y ∧ p = [] ∧ Wf4 x ∧ Wf4 y := by
  have c22 : Tryd.prog.cellsOf 22 = 4 := by kernel_rfl
  have c33 : Tryd.prog.cellsOf 33 = 8 := by kernel_rfl
  obtain ⟨cs, rfl, hsz⟩ := okWide_arr Tryd.underlying33 hv
  obtain ⟨fuel, hf⟩ := h
  obtain ⟨xs, m, rfl, hx, hlen, hl, hel⟩ := DataW.trod_array Tryd.underlying33 hf
  rw [c33] at hlen
  obtain ⟨v0, v1, v2, v3, v4, v5, v6, v7, hcs⟩ := list8 hlen
  obtain ⟨y0, y1, rfl⟩ := list2 hl
  have k0 := hel 0 (by omega); have k1 := hel 1 (by omega)
  rw [hcs] at k0 k1
  simp [c22] at k0 k1
  obtain ⟨x, e0, rfl, wx⟩ := open_four k0
  obtain ⟨y, e1, rfl, wy⟩ := open_four k1
  simp only [List.cons.injEq, and_true] at e0 e1
  obtain ⟨rfl, rfl, rfl, rfl⟩ := e0
  obtain ⟨rfl, rfl, rfl, rfl⟩ := e1
  simp at hx
  obtain ⟨l⟩ := cs
  simp [Value.cells] at hcs
  subst hcs
  exact ⟨x, y, rfl, hx.1, hx.2, wx, wy⟩
set_option maxRecDepth 100000 in
theorem shut_two {x y : Co} (wx : Wf4 x) (wy : Wf4 y) : DataW.Trod enc Tryd.prog w base spare held 33 (.agg (a8 x y)) (twoD x y) [] := by
  have c3 : Tryd.prog.cellsOf 3 = 1 := by kernel_rfl
  have c22 : Tryd.prog.cellsOf 22 = 4 := by kernel_rfl
  have c33 : Tryd.prog.cellsOf 33 = 8 := by kernel_rfl
  have r2 : List.range 2 = [0, 1] := rfl
  have r4 : List.range 4 = [0, 1, 2, 3] := rfl
  obtain ⟨xa, xb, xc, xd⟩ := wx
  obtain ⟨ya, yb, yc, yd⟩ := wy
  refine ⟨3, ?_⟩
  simp [DataW.trod, Value.cells, Tryd.underlying33, Tryd.underlying22, Tryd.underlying3, c3, c22, c33, r2, r4, xa, xb, xc, xd, ya, yb, yc, yd, twoD, fourD, a8]
set_option maxRecDepth 100000 in
theorem open_bytes {b0 : Nat} {r : Reach} {v : Value} {d : DataW H} {p : List MemPlace} (hv : Value.okWide Tryd.prog w r b0 34 v) (h : DataW.Trod enc Tryd.prog w base spare held 34 v d p) :
    ∃ x y z : Int, v = .agg (b3 x y z) ∧ d = bytesD x y z ∧ p = [] ∧ (Lit.int .u8 x).wf = true ∧ (Lit.int .u8 y).wf = true ∧ (Lit.int .u8 z).wf = true := by
  have c5 : Tryd.prog.cellsOf 5 = 1 := by kernel_rfl
  have c34 : Tryd.prog.cellsOf 34 = 3 := by kernel_rfl
  obtain ⟨cs, rfl, hsz⟩ := okWide_arr Tryd.underlying34 hv
  obtain ⟨fuel, hf⟩ := h
  obtain ⟨xs, m, rfl, hx, hlen, hl, hel⟩ := DataW.trod_array Tryd.underlying34 hf
  rw [c34] at hlen
  obtain ⟨v0, v1, v2, hcs⟩ := list3 hlen
  obtain ⟨y0, y1, y2, rfl⟩ := list3 hl
  have k0 := hel 0 (by omega); have k1 := hel 1 (by omega); have k2 := hel 2 (by omega)
  rw [hcs] at k0 k1 k2
  simp [c5] at k0 k1 k2
  obtain ⟨z0, a0, rfl, w0⟩ := DataW.trod_int Tryd.underlying5 k0
  obtain ⟨z1, a1, rfl, w1⟩ := DataW.trod_int Tryd.underlying5 k1
  obtain ⟨z2, a2, rfl, w2⟩ := DataW.trod_int Tryd.underlying5 k2
  simp only [List.cons.injEq, and_true] at a0 a1 a2
  subst a0; subst a1; subst a2
  simp at hx
  obtain ⟨l⟩ := cs
  simp [Value.cells] at hcs
  subst hcs
  exact ⟨z0, z1, z2, rfl, hx.1, hx.2, w0, w1, w2⟩
theorem shut_bytes {x y z : Int} (wx : (Lit.int .u8 x).wf = true) (wy : (Lit.int .u8 y).wf = true) (wz : (Lit.int .u8 z).wf = true) : DataW.Trod enc Tryd.prog w base spare held 34 (.agg (b3 x y z)) (bytesD x y z) [] := by
  have c5 : Tryd.prog.cellsOf 5 = 1 := by kernel_rfl
  have c34 : Tryd.prog.cellsOf 34 = 3 := by kernel_rfl
  have r3 : List.range 3 = [0, 1, 2] := rfl
  refine ⟨2, ?_⟩
  simp [DataW.trod, Value.cells, Tryd.underlying34, Tryd.underlying5, c5, c34, r3, wx, wy, wz, bytesD, b3]
end

set_option maxRecDepth 100000 in
theorem texts_lifted (os : Os) (started : os.Started) (H : Type) (enc : TypeId × Value → H) :
    ReturnsInHanded {} Tryd.checked os 4 .any (fun w args => (Rows.meterTextsSpec.pre enc Tryd.prog Tryd.f4 [] false w args ∧ laidMetH Tryd.prog listed w) ∧ sizedMet enc Tryd.prog Tryd.f4 (OpenSpec.ofChange Rows.meterTextsSpec) false w args)
      (Rows.meterTextsSpec.post enc Tryd.prog Tryd.f4 false true false false) := by
  refine returns_of_listed (C := Tryd.checked) (X := fun w _ => laidMetH Tryd.prog listed w) (fun _ _ _ hh h => h.of_heap hh) own0 started (by kernel_rfl) Tryd.func4
    (ChangeSpec.witness_shaped (enc := enc) (C := Tryd.checked) (os := os) (X := fun w _ => laidMetH Tryd.prog listed w) false (start os) #[.agg #[.int .i64 0, .int .i64 0, .int .i64 0, .int .i64 0, .int .i64 0, .int .i64 0, .int .i64 0, .int .i64 0], .agg #[.int .u8 0, .int .u8 0, .int .u8 0]] 8 (World.laidAll_os _ _ _) (start_shaped os _) (by kernel_rfl) (by kernel_rfl) (by kernel_rfl) (start_met os _)) ?_
  intro W base args ds gs before hval0 hW hL hsh
  have hval : ∀ (j : Nat) t v, Tryd.f4.params[j]? = some t → args[j]? = some v → Value.okWide Tryd.prog W .any base t v := hval0
  have hW' := hW
  obtain ⟨pp, qq, hA0, hV, rfl, hfz, hnd⟩ := hW
  have hA : DataW.TrodAll enc Tryd.prog W 0 (fun _ => true) true Tryd.f4.params.toList args.toList ds pp := hA0
  rw [Tryd.params4] at hA hval
  obtain ⟨v0, vs0, d0, ds0, p0, q0, hargs, rfl, rfl, h0, r0⟩ := trodAll_cons hA
  obtain ⟨v1, vs1, d1, ds1, p1, q1, rfl, rfl, rfl, h1, r1⟩ := trodAll_cons r0
  obtain ⟨rfl, rfl, rfl⟩ := trodAll_nil r1
  obtain rfl : args = #[v0, v1] := by cases args; simp_all
  obtain ⟨rfl, rfl⟩ := trodVars_none hV
  obtain ⟨x, y, rfl, rfl, rfl, wx, wy⟩ := open_two (hval 0 33 v0 rfl rfl) h0
  obtain ⟨p, q, r, rfl, rfl, rfl, wp, wq, wr⟩ := open_bytes (hval 1 34 v1 rfl rfl) h1
  clear hA0 hval0
  simp only [List.append_nil] at hW'
  have b1 := wf8 wp
  have b2 := wf8 wq
  have b4 := wf8 wr
  obtain ⟨p, rfl⟩ : ∃ n : Nat, p = n := ⟨p.toNat, by omega⟩
  obtain ⟨q, rfl⟩ : ∃ n : Nat, q = n := ⟨q.toNat, by omega⟩
  obtain ⟨r, rfl⟩ : ∃ n : Nat, r = n := ⟨r.toNat, by omega⟩
  refine (texts_walk x y p q r (by omega) W (tabs_of_listed hL hsh)).mono fun e W' ⟨he, hg⟩ => ?_
  subst he
  exact ⟨_, rfl, post_plain hW' (fun _ _ _ => (trodAll_cons_mk (shut_bool Tryd.underlying4 _) trodAll_mk0)) (fun sp => trodAll_cons_mk (shut_two wx wy) (trodAll_cons_mk (shut_bytes wp wq wr) trodAll_mk0)) (fun _ => rfl)
    hg (ok_one (by kernel_rfl) rfl (okWide_bool_mk Tryd.underlying4 _))⟩

theorem texts_proved : Rows.MeterTextsSaid :=
  OpenClaim.holds_of_wide 4 Tryd.f4 rfl rfl rfl rfl rfl rfl rfl ⟨rfl, rfl, rfl, rfl, rfl⟩ rfl rfl rfl rfl rfl (by kernel_rfl) Tryd.func4 (by kernel_rfl)
    (of_decide_eq_true (by kernel_rfl)) (by unfold Func.isWrapper; first | (rw [if_pos (by decide +kernel)]; kernel_rfl) | (rw [if_neg (by decide +kernel)]; exact ⟨rfl, rfl⟩))
    (fun os started H enc _ => texts_lifted os started H enc)

theorem texts_card : Rows.MeterTextsCardSaid :=
  Claim7.holds_tied_plain_at .later [] [.data, .data, .data, .data, .sentinel, .sentinel, .pinned] true (true, "bbf768d7aab3dd549f0b5a627c290795595818ceb0d567e3937261be1d1cb742") true
    texts_proved (fun _ h => by cases h) (by kernel_rfl) (fun _ h => by cases h) meterTexts_row_tie rfl ⟨rfl, rfl⟩ (by kernel_rfl) rfl
    (fun f fn hf hfn => by
      obtain rfl : f = 4 := Option.some.inj ((show Tryd.prog.funcNamed "warpwright/warpwrightlaw38.MeterTexts" = some 4 by kernel_rfl).symm.trans hf) |>.symm
      obtain rfl : fn = Tryd.f4 := (Option.some.inj (Tryd.func4.symm.trans hfn)).symm
      exact ⟨by kernel_rfl, fun j t ht => by
        rw [Tryd.params4] at ht
        have hm : t ∈ [33, 34] := by simpa using Array.mem_of_getElem? ht
        have hall : ([33, 34].all fun u => !Tryd.prog.wantsStandIn u) = true := by kernel_rfl
        exact (show Tryd.prog.wantsStandIn t = false by simpa using List.all_eq_true.1 hall t hm)⟩)
    (by kernel_rfl)
#print axioms texts_card
end Go.Proofs.YtajccjbigcdkbaaDoor
