/- A row whose argument lies in memory and stays as it was; a slice of four small numbers each, opened. -/
import Derived.Test.YtajccjbigcdkbaaDoorLa
import Derived.Test.YtajccjbigcdkbaaDoorSd
import Derived.Test.YtajccjbigcdkbaaDoorSe
import Derived.ChangeSame
import Derived.WideKeyArgs
set_option linter.unusedSimpArgs false
set_option linter.unusedVariables false
namespace Go.Proofs.YtajccjbigcdkbaaDoor
open Go.ChangeShapes Go.WideShapes Go.ChangeAt Go.RowKit
section
variable {H : Type} {enc : TypeId × Value → H} {P : Program}
/-- A row's last step: the walk leaves 'Below' alone; the argument's places read as they did. -/
theorem post_below {f : Func} {s : ChangeSpec} {apart fresh handsOn again : Bool} {W W' : World} {args : Array Value} {v : Value} {ds gs : List (DataW H)} {before pa pv : List MemPlace}
    (hW : DataW.Whole enc P f.params.toList s.vars apart W args.toList ds gs before)
    (hres : ∀ (b : Nat) (sp : Nat → Bool) (hd : Bool), DataW.TrodAll enc P W' b sp hd f.resultTypes.toList (v.resultList f.resultTypes.size) (s.fn H (ds ++ gs)).results [])
    (hargs : ∀ sp : Nat → Bool, (∀ p ∈ before, sp p.block = true) → DataW.TrodAll enc P W' 0 sp true f.params.toList args.toList (s.fn H (ds ++ gs)).args pa)
    (hvars : ∀ sp : Nat → Bool, (∀ p ∈ before, sp p.block = true) → DataW.TrodVars enc P W' sp s.vars (s.fn H (ds ++ gs)).vars pv)
    (hps : before = pa ++ pv) (hb : Below W.heap.size W W')
    (hok : ∀ (j : Nat) (t : TypeId) (r : Value), f.resultTypes[j]? = some t → (v.resultList f.resultTypes.size)[j]? = some r → Value.okWide P W' .any 0 t r) :
    s.post enc P f apart fresh handsOn again W args v W' := by
  have hold : ∀ p ∈ before, (fun b => decide (b < W.heap.size)) p.block = true := fun p hp => by simpa using hW.lt p hp
  have hlt : ∀ p ∈ before, p.block < W.heap.size := fun p hp => hW.lt p hp
  refine ⟨ds, gs, before, [], pa, pv, hW, hres _ _ _, hargs _ hold, hvars _ hold, World.keptBut_mono (fun p hp => ⟨hp, ?_⟩) (hb.frame (fun p => p ∈ before)), fun _ => ?_⟩
  · rw [hps, List.mem_append] at hp
    exact Or.inr hp
  · obtain ⟨_, _, _, _, _, hz, hn⟩ := hW
    refine ⟨hok, _, _, ([] ++ pa) ++ pv, ⟨[] ++ pa, pv, trodAll_append (hargs _ (fun _ _ => rfl)) (hres _ _ _), hvars _ (fun _ _ => rfl), rfl, ?_, ?_⟩, ?_⟩
    · intro b off hp
      have hp' : MemPlace.cell b off ∈ before := by rw [hps]; simpa using hp
      rw [hb.frozen (p := ⟨b, off, none⟩) (hlt _ hp')]
      exact hz b off hp'
    · intro ha
      have := hn ha
      rw [hps] at this
      simpa using this
    · intro p hp _
      rw [hps]
      simpa using hp
end
section
variable {H : Type} {enc : TypeId × Value → H} {w : World} {base : Nat} {spare : Nat → Bool} {held : Bool}
theorem wf16 {a : Int} (h : (Lit.int .u16 a).wf = true) : 0 ≤ a ∧ a ≤ 65535 := by
  simp [Lit.wf, IntKind.min, IntKind.max, IntKind.signed, IntKind.bits] at h; omega
theorem open_fourB {fuel : Nat} {cs : List Value} {y : DataW H × List MemPlace} (h : DataW.trod enc Tryd.prog w base spare held fuel 45 cs = some y) :
    ∃ x : Co, cs = [.int .u16 x.a, .int .u16 x.b, .int .u16 x.c, .int .u16 x.d] ∧ Low 65535 x := by
  have c3 : Tryd.prog.cellsOf 44 = 1 := by kernel_rfl
  have c22 : Tryd.prog.cellsOf 45 = 4 := by kernel_rfl
  obtain ⟨xs, m, rfl, rfl, hlen, hl, hel⟩ := DataW.trod_array Tryd.underlying45 h
  rw [c22] at hlen
  obtain ⟨v0, v1, v2, v3, rfl⟩ := list4 hlen
  obtain ⟨y0, y1, y2, y3, rfl⟩ := list4 hl
  have k0 := hel 0 (by omega); have k1 := hel 1 (by omega); have k2 := hel 2 (by omega); have k3 := hel 3 (by omega)
  simp [c3] at k0 k1 k2 k3
  obtain ⟨z0, a0, rfl, w0⟩ := DataW.trod_int Tryd.underlying44 k0
  obtain ⟨z1, a1, rfl, w1⟩ := DataW.trod_int Tryd.underlying44 k1
  obtain ⟨z2, a2, rfl, w2⟩ := DataW.trod_int Tryd.underlying44 k2
  obtain ⟨z3, a3, rfl, w3⟩ := DataW.trod_int Tryd.underlying44 k3
  simp only [List.cons.injEq, and_true] at a0 a1 a2 a3
  subst a0; subst a1; subst a2; subst a3
  exact ⟨⟨z0, z1, z2, z3⟩, rfl, ⟨wf16 w0, wf16 w1, wf16 w2, wf16 w3⟩⟩
theorem list_of {Q : Nat → Co → Prop} : ∀ n : Nat, (∀ i, i < n → ∃ c, Q i c) → ∃ cs : List Co, cs.length = n ∧ ∀ (k : Nat) c, cs[k]? = some c → Q k c
  | 0, _ => ⟨[], rfl, fun k c h => by simp at h⟩
  | n + 1, h => by
    obtain ⟨cs, hl, hall⟩ := list_of n (fun i hi => h i (by omega))
    obtain ⟨c, hc⟩ := h n (by omega)
    refine ⟨cs ++ [c], by simp [hl], fun k x hk => ?_⟩
    rw [List.getElem?_append] at hk
    split at hk
    · exact hall k x hk
    · rename_i hge
      obtain ⟨j, hj⟩ : ∃ j, k - cs.length = j := ⟨_, rfl⟩
      rw [hj] at hk
      cases j with
      | zero =>
        simp only [List.getElem?_cons_zero, Option.some.injEq] at hk
        subst hk
        obtain rfl : k = n := by omega
        exact hc
      | succ j => simp at hk
theorem cells_four {a : Addr} {cs : List Value} (h : w.cells? 0 a 4 = some cs) : ∃ v0 v1 v2 v3, cs = [v0, v1, v2, v3] ∧ w.cell? (a.add 0) = some v0 ∧ w.cell? (a.add 1) = some v1 ∧ w.cell? (a.add 2) = some v2 ∧ w.cell? (a.add 3) = some v3 := by
  have r4 : List.range 4 = [0, 1, 2, 3] := rfl
  simp only [World.cells?, Nat.zero_le, if_true, r4, List.mapM_cons, List.mapM_nil] at h
  cases h0 : w.cell? (a.add 0) with
  | none => simp [h0] at h
  | some v0 =>
    cases h1 : w.cell? (a.add 1) with
    | none => simp [h0, h1] at h
    | some v1 =>
      cases h2 : w.cell? (a.add 2) with
      | none => simp [h0, h1, h2] at h
      | some v2 =>
        cases h3 : w.cell? (a.add 3) with
        | none => simp [h0, h1, h2, h3] at h
        | some v3 =>
          simp [h0, h1, h2, h3] at h
          exact ⟨v0, v1, v2, v3, h.symm, rfl, rfl, rfl, rfl⟩
set_option maxRecDepth 100000 in
theorem open_rows {b0 : Nat} {r : Reach} {v : Value} {d : DataW H} {p : List MemPlace} (hv : Value.okWide Tryd.prog w r b0 43 v) (h : DataW.Trod enc Tryd.prog w 0 spare held 43 v d p) :
    ∃ an len cap, v = .slice an len cap ∧ ∃ cs : List Co, cs.length = len ∧ ∀ (k : Nat) c, cs[k]? = some c → ∃ xb xo, an = some ⟨xb, xo, none⟩ ∧ X4 w xb xo k c := by
  have c22 : Tryd.prog.cellsOf 45 = 4 := by kernel_rfl
  obtain ⟨an, len, cap, rfl⟩ := okWide_slice Tryd.underlying43 hv
  obtain ⟨fuel, hf⟩ := h
  refine ⟨an, len, cap, rfl, ?_⟩
  rcases DataW.trod_slice Tryd.underlying43 hf with ⟨hcs, _⟩ | ⟨a, len', cap', elems, rest, n, rfl, hcs, _, _, _, _, hlen, hel, _⟩
  · simp [Value.cells] at hcs
    obtain ⟨_, rfl, _⟩ := hcs
    exact ⟨[], rfl, fun k c h => by simp at h⟩
  · simp [Value.cells] at hcs
    obtain ⟨rfl, rfl, rfl⟩ := hcs
    have one : ∀ i, i < len → ∃ x : Co, (w.cell? ((a.add (i * 4)).add 0) = some (.int .u16 x.a) ∧ w.cell? ((a.add (i * 4)).add 1) = some (.int .u16 x.b) ∧ w.cell? ((a.add (i * 4)).add 2) = some (.int .u16 x.c) ∧ w.cell? ((a.add (i * 4)).add 3) = some (.int .u16 x.d)) ∧ Low 65535 x := fun i hi => by
      have hE := hel i hi
      rw [List.getElem?_eq_getElem (by omega), c22] at hE
      simp only [Option.bind_eq_some_iff] at hE
      obtain ⟨cs1, hc1, hy1⟩ := hE
      obtain ⟨x, rfl, hx⟩ := open_fourB hy1
      obtain ⟨v0, v1, v2, v3, e, f0, f1, f2, f3⟩ := cells_four hc1
      simp only [List.cons.injEq, and_true] at e
      obtain ⟨rfl, rfl, rfl, rfl⟩ := e
      exact ⟨x, ⟨f0, f1, f2, f3⟩, hx⟩
    obtain ⟨b, off, spot⟩ := a
    refine list_of (Q := fun k c => ∃ xb xo, some (⟨b, off, spot⟩ : Addr) = some ⟨xb, xo, none⟩ ∧ X4 w xb xo k c) len fun i hi => ?_
    have hs : spot = none := by
      obtain ⟨_, ⟨f0, _⟩, _⟩ := one 0 (by omega)
      exact World.cell?_spot f0
    subst hs
    obtain ⟨x, ⟨f0, f1, f2, f3⟩, hx⟩ := one i hi
    simp only [add_plain, Nat.add_zero] at f0 f1 f2 f3
    exact ⟨x, b, off, rfl, World.block_lt_of_cell? _ _ f0, f0, f1, f2, f3, hx⟩
end
end Go.Proofs.YtajccjbigcdkbaaDoor
