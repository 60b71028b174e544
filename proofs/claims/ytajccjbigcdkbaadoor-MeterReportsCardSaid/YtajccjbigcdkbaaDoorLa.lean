/- What the row's listed variables give the walk; the form's wrap that keeps both the listed variables and the world's shape; a start that lays them. -/
import Derived.Test.YtajccjbigcdkbaaDoorMh
import Derived.Test.YtajccjbigcdkbaaDoorRows
import Derived.WalkKit
import Derived.ProofKit
import Derived.OpenShut
import Derived.Lay
import Derived.Lib.LaidU8
import Derived.Lib.LaidTab
import Derived.LaidLaws
import Derived.MakeChecks
import Derived.Shelf.Vars
import Derived.Lib.SmallJoins
set_option linter.unusedSimpArgs false
set_option linter.unusedVariables false
namespace Go.Proofs.YtajccjbigcdkbaaDoor
open Go.ChangeShapes Go.WideShapes Go.ChangeAt Go.RowKit

theorem own0 : ownKnob Tryd.prog.godebug = none := by kernel_rfl
/-- The wrap: the contract is handed what the row lists, and the world's shape. -/
theorem returns_of_listed {H : Type} {enc : TypeId × Value → H} {a : Assume} {C : Checked} {os : Os} {f : FuncId} {fn : Func} {s : ChangeSpec} {conds : List PathCond} {apart fresh handsOn again : Bool} {X : World → Array Value → Prop}
    (hX : ∀ (w w' : World) (args : Array Value), w.heap = w'.heap → X w args → X w' args)
    (own : ownKnob C.prog.godebug = none) (started : os.Started) (noInit : C.prog.inits.idxOf? f = none) (hfn : C.prog.funcs[f]? = some fn)
    (witness : ∃ (w : World) (tape : Tape) (i : Input), w.os = os ∧ (w.forCall tape i).Shaped C.prog ∧ i.vars = [] ∧ Input.okWide C.prog (w.forCall tape i) .any w.heap.size f i ∧
      ((s.pre enc C.prog fn conds apart (w.forCall tape i).memory i.args ∧ X (w.forCall tape i).memory i.args) ∧ sizedMet enc C.prog fn (OpenSpec.ofChange s) apart (w.forCall tape i).memory i.args) ∧ a.holds C.prog (lone (Frame.enter C.prog f i.args .normal) [] (w.forCall tape i)))
    (contract : ∀ (W : World) (base : Nat) (args : Array Value) (ds gs : List (DataW H)) (before : List MemPlace),
      (∀ (j : Nat) t v, fn.params[j]? = some t → args[j]? = some v → Value.okWide C.prog W .any base t v) →
      DataW.Whole enc C.prog fn.params.toList s.vars apart W args.toList ds gs before → X W args → W.ShapedOpen C.prog →
      Calls C.prog f args W fun e W' => ∃ v, e = .returned v ∧ s.post enc C.prog fn apart fresh handsOn again W args v W') :
    ReturnsInHanded a C os f .any (fun w args => (s.pre enc C.prog fn conds apart w args ∧ X w args) ∧ sizedMet enc C.prog fn (OpenSpec.ofChange s) apart w args) (s.post enc C.prog fn apart fresh handsOn again) := by
  refine returnsInHanded_of_calls own started noInit witness ?_
  intro w tape i _ hsh _ hok hpre _
  obtain ⟨_, _, _, fn', hfn', _, _, _, _, hval⟩ := hok
  have e : fn' = fn := Option.some.inj (hfn'.symm.trans hfn)
  subst e
  obtain ⟨⟨⟨ds, gs, before, hw, _⟩, hx⟩, _⟩ := hpre
  have hw' := DataW.Whole.of_heap (w' := w.forCall tape i) (by rfl) hw
  refine (contract (w.forCall tape i) w.heap.size i.args ds gs before hval hw' (hX _ _ _ (by rfl) hx) hsh).mono fun e W' ⟨v, he, hp⟩ => ?_
  subst he
  exact ChangeSpec.post_blind hp

/-- What the three rows list. -/
abbrev listed : List (String × DataW Unit) := Rows.meterSumsRow.laid
theorem listed_plain {W : World} (h : laidMetH Tryd.prog listed W) : laidMet Tryd.prog listed W := by
  rw [MakeChecks.laidMetH_plain _ _ _ (by kernel_rfl)] at h
  exact h
theorem iface_read {W : World} {n : String} {nm : String} {d : DataW Unit} {g : Nat} {t : TypeId} {ms : Array (String × TypeId)} (hg : Tryd.prog.globalNamed n = some g) (ht : (Tryd.prog.globals[g]?).map (·.type) = some t) (hu : Tryd.prog.underlying t = some (.interface ms))
    (h : Lib.VarReads Tryd.prog W n (.iface nm d)) : ∃ tp p, W.var? Tryd.prog n = some #[.iface tp p] := by
  obtain ⟨g', t', cs, fuel, p, h1, h2, h3, h4⟩ := h
  obtain rfl := Option.some.inj (hg.symm.trans h1)
  obtain rfl := Option.some.inj (ht.symm.trans h2)
  obtain ⟨_, u, v, hcs, _, _⟩ := iface_of_trod hu h4
  exact ⟨u, v, by rw [h3]; cases cs; simp_all⟩
theorem tabs_of_listed {W : World} (h : laidMetH Tryd.prog listed W) (hs : W.ShapedOpen Tryd.prog) : Tabs W := by
  have hm := listed_plain h
  refine ⟨?_, ?_, ?_, ?_⟩
  · obtain ⟨g', t', cs, fuel, p, h1, h2, h3, h4⟩ := Lib.laidMet.reads hm (n := "internal/strconv.uint64pow10") (d := Rows.laid_internal_strconv_uint64pow10) (by simp [listed, Rows.meterSumsRow])
    obtain rfl := Option.some.inj ((show Tryd.prog.globalNamed "internal/strconv.uint64pow10" = some 0 by kernel_rfl).symm.trans h1)
    obtain rfl := Option.some.inj ((show (Tryd.prog.globals[0]?).map (·.type) = some 120 by kernel_rfl).symm.trans h2)
    have := Lib.cells_of_tab (zs := Lib.pow10Tab) Tryd.underlying120 Tryd.underlying96 (by kernel_rfl) (by kernel_rfl) (show DataW.trod _ _ _ _ _ _ _ _ _ = some (Lib.tabData .u64 Lib.pow10Tab, p) from h4)
    unfold Lib.TabIs
    rw [h3, ← this]
  · exact iface_read (g := 2) (t := 71) (by kernel_rfl) (by kernel_rfl) Tryd.underlying71 (Lib.laidMet.reads hm (n := "strconv.ErrSyntax") (d := Rows.laid_strconv_ErrSyntax) (by simp [listed, Rows.meterSumsRow]))
  · exact iface_read (g := 3) (t := 71) (by kernel_rfl) (by kernel_rfl) Tryd.underlying71 (Lib.laidMet.reads hm (n := "strconv.ErrRange") (d := Rows.laid_strconv_ErrRange) (by simp [listed, Rows.meterSumsRow]))
  · exact cell_of_shapedOpen_int (P := Tryd.prog) (g := 1) (t := 3) (zero := #[.int .i64 0]) hs (of_decide_eq_true (by kernel_rfl)) (by kernel_rfl) rfl (by kernel_rfl) (by kernel_rfl) Tryd.underlying3

/-- A start that lays them. -/
noncomputable def start (os : Os) : World := World.laidAll Tryd.prog os listed
set_option maxRecDepth 100000 in
theorem start_shaped (os : Os) (args : Array Value) : ((start os).forCall (fun _ _ => 0) ⟨#[], args, []⟩).Shaped Tryd.prog := World.shaped_of_ZipB (by kernel_rfl) (by kernel_rfl)
set_option maxRecDepth 100000 in
theorem start_met (os : Os) (args : Array Value) : laidMetH Tryd.prog listed ((start os).forCall (fun _ _ => 0) ⟨#[], args, []⟩).memory := by
  rw [MakeChecks.laidMetH_plain _ _ _ (by kernel_rfl)]
  exact laidMet_laidAll _ (by kernel_rfl) (by kernel_rfl)

section
variable {H : Type} {enc : TypeId × Value → H} {P : Program}
/-- A row's last step for rows whose input holds no memory at all: the walk leaves 'Below' alone. -/
theorem post_plain {f : Func} {s : ChangeSpec} {apart fresh handsOn again : Bool} {W W' : World} {args : Array Value} {v : Value} {ds gs : List (DataW H)}
    (hW : DataW.Whole enc P f.params.toList s.vars apart W args.toList ds gs [])
    (hres : ∀ (b : Nat) (sp : Nat → Bool) (hd : Bool), DataW.TrodAll enc P W' b sp hd f.resultTypes.toList (v.resultList f.resultTypes.size) (s.fn H (ds ++ gs)).results [])
    (hargs : ∀ sp : Nat → Bool, DataW.TrodAll enc P W' 0 sp true f.params.toList args.toList (s.fn H (ds ++ gs)).args [])
    (hvars : ∀ sp : Nat → Bool, DataW.TrodVars enc P W' sp s.vars (s.fn H (ds ++ gs)).vars []) (hb : Below W.heap.size W W')
    (hok : ∀ (j : Nat) (t : TypeId) (r : Value), f.resultTypes[j]? = some t → (v.resultList f.resultTypes.size)[j]? = some r → Value.okWide P W' .any 0 t r) :
    s.post enc P f apart fresh handsOn again W args v W' := by
  refine ⟨ds, gs, [], [], [], [], hW, hres _ _ _, hargs _, hvars _, World.keptBut_mono (fun p hp => ?_) (hb.frame (fun p => p ∈ ([] : List MemPlace))), fun _ => ⟨hok, _, _, [], ⟨[], [], trodAll_append (hargs _) (hres _ _ _), hvars _, rfl, fun b off hp => ?_, fun _ => List.nodup_nil⟩, fun p hp => ?_⟩⟩ <;> cases hp
end

theorem wf8 {a : Int} (h : (Lit.int .u8 a).wf = true) : 0 ≤ a ∧ a ≤ 255 := by
  simp [Lit.wf, IntKind.min, IntKind.max, IntKind.signed, IntKind.bits] at h; omega
section
variable {H : Type} {enc : TypeId × Value → H} {w : World} {base : Nat} {spare : Nat → Bool} {held : Bool}
def fourD {H : Type} (a b c d : Int) : DataW H := .agg [.lit (.int .i64 a), .lit (.int .i64 b), .lit (.int .i64 c), .lit (.int .i64 d)]
structure Wf4 (x : Co) : Prop where
  a : (Lit.int .i64 x.a).wf = true
  b : (Lit.int .i64 x.b).wf = true
  c : (Lit.int .i64 x.c).wf = true
  d : (Lit.int .i64 x.d).wf = true
theorem list4 {α : Type} {l : List α} (h : l.length = 4) : ∃ a b c d, l = [a, b, c, d] := by
  rcases l with _ | ⟨a, _ | ⟨b, _ | ⟨c, _ | ⟨d, _ | ⟨e, l⟩⟩⟩⟩⟩ <;> simp at h
  exact ⟨a, b, c, d, rfl⟩
theorem open_four {fuel : Nat} {cs : List Value} {y : DataW H × List MemPlace} (h : DataW.trod enc Tryd.prog w base spare held fuel 22 cs = some y) :
    ∃ x : Co, cs = [.int .i64 x.a, .int .i64 x.b, .int .i64 x.c, .int .i64 x.d] ∧ y = (fourD x.a x.b x.c x.d, []) ∧ Wf4 x := by
  have c3 : Tryd.prog.cellsOf 3 = 1 := by kernel_rfl
  have c22 : Tryd.prog.cellsOf 22 = 4 := by kernel_rfl
  obtain ⟨xs, m, rfl, rfl, hlen, hl, hel⟩ := DataW.trod_array Tryd.underlying22 h
  rw [c22] at hlen
  obtain ⟨v0, v1, v2, v3, rfl⟩ := list4 hlen
  obtain ⟨y0, y1, y2, y3, rfl⟩ := list4 hl
  have k0 := hel 0 (by omega); have k1 := hel 1 (by omega); have k2 := hel 2 (by omega); have k3 := hel 3 (by omega)
  simp [c3] at k0 k1 k2 k3
  obtain ⟨z0, a0, rfl, w0⟩ := DataW.trod_int Tryd.underlying3 k0
  obtain ⟨z1, a1, rfl, w1⟩ := DataW.trod_int Tryd.underlying3 k1
  obtain ⟨z2, a2, rfl, w2⟩ := DataW.trod_int Tryd.underlying3 k2
  obtain ⟨z3, a3, rfl, w3⟩ := DataW.trod_int Tryd.underlying3 k3
  simp only [List.cons.injEq, and_true] at a0 a1 a2 a3
  subst a0; subst a1; subst a2; subst a3
  exact ⟨⟨z0, z1, z2, z3⟩, rfl, by simp [fourD], ⟨w0, w1, w2, w3⟩⟩
theorem okWide_arr {P : Program} {n : Nat} {t e : TypeId} {r : Reach} {b0 : Nat} {v : Value} (ht : P.underlying t = some (.array n e)) (h : Value.okWide P w r b0 t v) : ∃ cs, v = .agg cs ∧ cs.size = P.cellsOf t := by
  simp only [Value.okWide, ht] at h
  obtain ⟨cs, h1, h2, _⟩ := h
  exact ⟨cs, h1, h2⟩
end
end Go.Proofs.YtajccjbigcdkbaaDoor
