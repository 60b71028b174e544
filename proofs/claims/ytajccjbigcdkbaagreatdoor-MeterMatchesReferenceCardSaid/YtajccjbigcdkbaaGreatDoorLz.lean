/- What the row's listed variables give the walk; the form's wrap that keeps both the listed variables and the world's shape; a start that lays them. -/
import Derived.Test.YtajccjbigcdkbaaGreatDoorMh
import Derived.Test.YtajccjbigcdkbaaGreatDoorRows
import Derived.WalkKit
import Derived.ProofKit
import Derived.OpenShut
import Derived.Lay
import Derived.Lib.LaidU8
import Derived.Lib.LaidTab
import Derived.LaidLaws
import Derived.MakeChecks
import Derived.Shelf.Vars
import Derived.Lib.SmallJoins
import Derived.ChangeSame
import Derived.WideKeyArgs
import Derived.Test.YtajccjbigcdkbaaGreatDoorZr
set_option linter.unusedSimpArgs false
set_option linter.unusedVariables false
namespace Go.Proofs.YtajccjbigcdkbaaGreatDoor
open Go.ChangeShapes Go.WideShapes Go.ChangeAt Go.RowKit

theorem own0 : ownKnob Tryz.prog.godebug = none := by kernel_rfl
/-- The wrap: the contract is handed what the row lists, and the world's shape. -/
theorem returns_of_listed {H : Type} {enc : TypeId × Value → H} {a : Assume} {C : Checked} {os : Os} {f : FuncId} {fn : Func} {s : ChangeSpec} {conds : List PathCond} {apart fresh handsOn again : Bool} {X : World → Array Value → Prop}
    (hX : ∀ (w w' : World) (args : Array Value), w.heap = w'.heap → X w args → X w' args)
    (own : ownKnob C.prog.godebug = none) (started : os.Started) (noInit : C.prog.inits.idxOf? f = none) (hfn : C.prog.funcs[f]? = some fn)
    (witness : ∃ (w : World) (tape : Tape) (i : Input), w.os = os ∧ (w.forCall tape i).Shaped C.prog ∧ i.vars = [] ∧ Input.okWide C.prog (w.forCall tape i) .any w.heap.size f i ∧
      ((s.pre enc C.prog fn conds apart (w.forCall tape i).memory i.args ∧ X (w.forCall tape i).memory i.args) ∧ sizedMet enc C.prog fn (OpenSpec.ofChange s) apart (w.forCall tape i).memory i.args) ∧ a.holds C.prog (lone (Frame.enter C.prog f i.args .normal) [] (w.forCall tape i)))
    (contract : ∀ (W : World) (base : Nat) (args : Array Value) (ds gs : List (DataW H)) (before : List MemPlace),
      (∀ (j : Nat) t v, fn.params[j]? = some t → args[j]? = some v → Value.okWide C.prog W .any base t v) →
      DataW.Whole enc C.prog fn.params.toList s.vars apart W args.toList ds gs before → X W args → W.ShapedOpen C.prog →
      Calls C.prog f args W fun e W' => ∃ v, e = .returned v ∧ s.post enc C.prog fn apart fresh handsOn again W args v W') :
    ReturnsInHanded a C os f .any (fun w args => (s.pre enc C.prog fn conds apart w args ∧ X w args) ∧ sizedMet enc C.prog fn (OpenSpec.ofChange s) apart w args) (s.post enc C.prog fn apart fresh handsOn again) := by
  refine returnsInHanded_of_calls own started noInit witness ?_
  intro w tape i _ hsh _ hok hpre _
  obtain ⟨_, _, _, fn', hfn', _, _, _, _, hval⟩ := hok
  have e : fn' = fn := Option.some.inj (hfn'.symm.trans hfn)
  subst e
  obtain ⟨⟨⟨ds, gs, before, hw, _⟩, hx⟩, _⟩ := hpre
  have hw' := DataW.Whole.of_heap (w' := w.forCall tape i) (by rfl) hw
  refine (contract (w.forCall tape i) w.heap.size i.args ds gs before hval hw' (hX _ _ _ (by rfl) hx) hsh).mono fun e W' ⟨v, he, hp⟩ => ?_
  subst he
  exact ChangeSpec.post_blind hp

/-- What the row lists. -/
abbrev listed : List (String × DataW Unit) := Rows.meterMatchesReferenceRow.laid
theorem listed_plain {W : World} (h : laidMetH Tryz.prog listed W) : laidMet Tryz.prog listed W := by
  rw [MakeChecks.laidMetH_plain _ _ _ (by kernel_rfl)] at h
  exact h
theorem iface_read {W : World} {n : String} {nm : String} {d : DataW Unit} {g : Nat} {t : TypeId} {ms : Array (String × TypeId)} (hg : Tryz.prog.globalNamed n = some g) (ht : (Tryz.prog.globals[g]?).map (·.type) = some t) (hu : Tryz.prog.underlying t = some (.interface ms))
    (h : Lib.VarReads Tryz.prog W n (.iface nm d)) : ∃ tp p, W.var? Tryz.prog n = some #[.iface tp p] := by
  obtain ⟨g', t', cs, fuel, p, h1, h2, h3, h4⟩ := h
  obtain rfl := Option.some.inj (hg.symm.trans h1)
  obtain rfl := Option.some.inj (ht.symm.trans h2)
  obtain ⟨_, u, v, hcs, _, _⟩ := iface_of_trod hu h4
  exact ⟨u, v, by rw [h3]; cases cs; simp_all⟩
theorem tabs_of_listed {W : World} (h : laidMetH Tryz.prog listed W) (hs : W.ShapedOpen Tryz.prog) : Tabs W := by
  have hm := listed_plain h
  refine ⟨?_, ?_, ?_, ?_⟩
  · obtain ⟨g', t', cs, fuel, p, h1, h2, h3, h4⟩ := Lib.laidMet.reads hm (n := "internal/strconv.uint64pow10") (d := Rows.laid_internal_strconv_uint64pow10) (by simp [listed, Rows.meterMatchesReferenceRow])
    obtain rfl := Option.some.inj ((show Tryz.prog.globalNamed "internal/strconv.uint64pow10" = some 0 by kernel_rfl).symm.trans h1)
    obtain rfl := Option.some.inj ((show (Tryz.prog.globals[0]?).map (·.type) = some 114 by kernel_rfl).symm.trans h2)
    have := Lib.cells_of_tab (zs := Lib.pow10Tab) Tryz.underlying114 Tryz.underlying90 (by kernel_rfl) (by kernel_rfl) (show DataW.trod _ _ _ _ _ _ _ _ _ = some (Lib.tabData .u64 Lib.pow10Tab, p) from h4)
    unfold Lib.TabIs
    rw [h3, ← this]
  · exact iface_read (g := 2) (t := 70) (by kernel_rfl) (by kernel_rfl) Tryz.underlying70 (Lib.laidMet.reads hm (n := "strconv.ErrSyntax") (d := Rows.laid_strconv_ErrSyntax) (by simp [listed, Rows.meterMatchesReferenceRow]))
  · exact iface_read (g := 3) (t := 70) (by kernel_rfl) (by kernel_rfl) Tryz.underlying70 (Lib.laidMet.reads hm (n := "strconv.ErrRange") (d := Rows.laid_strconv_ErrRange) (by simp [listed, Rows.meterMatchesReferenceRow]))
  · exact cell_of_shapedOpen_int (P := Tryz.prog) (g := 1) (t := 3) (zero := #[.int .i64 0]) hs (of_decide_eq_true (by kernel_rfl)) (by kernel_rfl) rfl (by kernel_rfl) (by kernel_rfl) Tryz.underlying3

/-- A start that lays them. -/
noncomputable def start (os : Os) : World := World.laidAll Tryz.prog os listed
set_option maxRecDepth 100000 in
theorem start_shaped (os : Os) (args : Array Value) : ((start os).forCall (fun _ _ => 0) ⟨#[], args, []⟩).Shaped Tryz.prog := World.shaped_of_ZipB (by kernel_rfl) (by kernel_rfl)
set_option maxRecDepth 100000 in
theorem start_met (os : Os) (args : Array Value) : laidMetH Tryz.prog listed ((start os).forCall (fun _ _ => 0) ⟨#[], args, []⟩).memory := by
  rw [MakeChecks.laidMetH_plain _ _ _ (by kernel_rfl)]
  exact laidMet_laidAll _ (by kernel_rfl) (by kernel_rfl)

section
variable {H : Type} {enc : TypeId × Value → H} {P : Program}
/-- A row's last step for rows whose input holds no memory at all: the walk leaves 'Below' alone. -/
theorem post_plain {f : Func} {s : ChangeSpec} {apart fresh handsOn again : Bool} {W W' : World} {args : Array Value} {v : Value} {ds gs : List (DataW H)}
    (hW : DataW.Whole enc P f.params.toList s.vars apart W args.toList ds gs [])
    (hres : ∀ (b : Nat) (sp : Nat → Bool) (hd : Bool), DataW.TrodAll enc P W' b sp hd f.resultTypes.toList (v.resultList f.resultTypes.size) (s.fn H (ds ++ gs)).results [])
    (hargs : ∀ sp : Nat → Bool, DataW.TrodAll enc P W' 0 sp true f.params.toList args.toList (s.fn H (ds ++ gs)).args [])
    (hvars : ∀ sp : Nat → Bool, DataW.TrodVars enc P W' sp s.vars (s.fn H (ds ++ gs)).vars []) (hb : Below W.heap.size W W')
    (hok : ∀ (j : Nat) (t : TypeId) (r : Value), f.resultTypes[j]? = some t → (v.resultList f.resultTypes.size)[j]? = some r → Value.okWide P W' .any 0 t r) :
    s.post enc P f apart fresh handsOn again W args v W' := by
  refine ⟨ds, gs, [], [], [], [], hW, hres _ _ _, hargs _, hvars _, World.keptBut_mono (fun p hp => ?_) (hb.frame (fun p => p ∈ ([] : List MemPlace))), fun _ => ⟨hok, _, _, [], ⟨[], [], trodAll_append (hargs _) (hres _ _ _), hvars _, rfl, fun b off hp => ?_, fun _ => List.nodup_nil⟩, fun p hp => ?_⟩⟩ <;> cases hp
end

theorem wf8 {a : Int} (h : (Lit.int .u8 a).wf = true) : 0 ≤ a ∧ a ≤ 255 := by
  simp [Lit.wf, IntKind.min, IntKind.max, IntKind.signed, IntKind.bits] at h; omega
section
variable {H : Type} {enc : TypeId × Value → H} {w : World} {base : Nat} {spare : Nat → Bool} {held : Bool}
def fourD {H : Type} (a b c d : Int) : DataW H := .agg [.lit (.int .i64 a), .lit (.int .i64 b), .lit (.int .i64 c), .lit (.int .i64 d)]
structure Wf4 (x : Co) : Prop where
  a : (Lit.int .i64 x.a).wf = true
  b : (Lit.int .i64 x.b).wf = true
  c : (Lit.int .i64 x.c).wf = true
  d : (Lit.int .i64 x.d).wf = true
theorem list4 {α : Type} {l : List α} (h : l.length = 4) : ∃ a b c d, l = [a, b, c, d] := by
  rcases l with _ | ⟨a, _ | ⟨b, _ | ⟨c, _ | ⟨d, _ | ⟨e, l⟩⟩⟩⟩⟩ <;> simp at h
  exact ⟨a, b, c, d, rfl⟩
theorem open_four {fuel : Nat} {cs : List Value} {y : DataW H × List MemPlace} (h : DataW.trod enc Tryz.prog w base spare held fuel 28 cs = some y) :
    ∃ x : Co, cs = [.int .i64 x.a, .int .i64 x.b, .int .i64 x.c, .int .i64 x.d] ∧ y = (fourD x.a x.b x.c x.d, []) ∧ Wf4 x := by
  have c3 : Tryz.prog.cellsOf 3 = 1 := by kernel_rfl
  have c22 : Tryz.prog.cellsOf 28 = 4 := by kernel_rfl
  obtain ⟨xs, m, rfl, rfl, hlen, hl, hel⟩ := DataW.trod_array Tryz.underlying28 h
  rw [c22] at hlen
  obtain ⟨v0, v1, v2, v3, rfl⟩ := list4 hlen
  obtain ⟨y0, y1, y2, y3, rfl⟩ := list4 hl
  have k0 := hel 0 (by omega); have k1 := hel 1 (by omega); have k2 := hel 2 (by omega); have k3 := hel 3 (by omega)
  simp [c3] at k0 k1 k2 k3
  obtain ⟨z0, a0, rfl, w0⟩ := DataW.trod_int Tryz.underlying3 k0
  obtain ⟨z1, a1, rfl, w1⟩ := DataW.trod_int Tryz.underlying3 k1
  obtain ⟨z2, a2, rfl, w2⟩ := DataW.trod_int Tryz.underlying3 k2
  obtain ⟨z3, a3, rfl, w3⟩ := DataW.trod_int Tryz.underlying3 k3
  simp only [List.cons.injEq, and_true] at a0 a1 a2 a3
  subst a0; subst a1; subst a2; subst a3
  exact ⟨⟨z0, z1, z2, z3⟩, rfl, by simp [fourD], ⟨w0, w1, w2, w3⟩⟩
theorem okWide_arr {P : Program} {n : Nat} {t e : TypeId} {r : Reach} {b0 : Nat} {v : Value} (ht : P.underlying t = some (.array n e)) (h : Value.okWide P w r b0 t v) : ∃ cs, v = .agg cs ∧ cs.size = P.cellsOf t := by
  simp only [Value.okWide, ht] at h
  obtain ⟨cs, h1, h2, _⟩ := h
  exact ⟨cs, h1, h2⟩
end
section
variable {H : Type} {enc : TypeId × Value → H} {P : Program}
/-- A row's last step: the walk leaves 'Below' alone; the argument's places read as they did. -/
theorem post_below {f : Func} {s : ChangeSpec} {apart fresh handsOn again : Bool} {W W' : World} {args : Array Value} {v : Value} {ds gs : List (DataW H)} {before pa pv : List MemPlace}
    (hW : DataW.Whole enc P f.params.toList s.vars apart W args.toList ds gs before)
    (hres : ∀ (b : Nat) (sp : Nat → Bool) (hd : Bool), DataW.TrodAll enc P W' b sp hd f.resultTypes.toList (v.resultList f.resultTypes.size) (s.fn H (ds ++ gs)).results [])
    (hargs : ∀ sp : Nat → Bool, (∀ p ∈ before, sp p.block = true) → DataW.TrodAll enc P W' 0 sp true f.params.toList args.toList (s.fn H (ds ++ gs)).args pa)
    (hvars : ∀ sp : Nat → Bool, (∀ p ∈ before, sp p.block = true) → DataW.TrodVars enc P W' sp s.vars (s.fn H (ds ++ gs)).vars pv)
    (hps : before = pa ++ pv) (hb : Below W.heap.size W W')
    (hok : ∀ (j : Nat) (t : TypeId) (r : Value), f.resultTypes[j]? = some t → (v.resultList f.resultTypes.size)[j]? = some r → Value.okWide P W' .any 0 t r) :
    s.post enc P f apart fresh handsOn again W args v W' := by
  have hold : ∀ p ∈ before, (fun b => decide (b < W.heap.size)) p.block = true := fun p hp => by simpa using hW.lt p hp
  have hlt : ∀ p ∈ before, p.block < W.heap.size := fun p hp => hW.lt p hp
  refine ⟨ds, gs, before, [], pa, pv, hW, hres _ _ _, hargs _ hold, hvars _ hold, World.keptBut_mono (fun p hp => ⟨hp, ?_⟩) (hb.frame (fun p => p ∈ before)), fun _ => ?_⟩
  · rw [hps, List.mem_append] at hp
    exact Or.inr hp
  · obtain ⟨_, _, _, _, _, hz, hn⟩ := hW
    refine ⟨hok, _, _, ([] ++ pa) ++ pv, ⟨[] ++ pa, pv, trodAll_append (hargs _ (fun _ _ => rfl)) (hres _ _ _), hvars _ (fun _ _ => rfl), rfl, ?_, ?_⟩, ?_⟩
    · intro b off hp
      have hp' : MemPlace.cell b off ∈ before := by rw [hps]; simpa using hp
      rw [hb.frozen (p := ⟨b, off, none⟩) (hlt _ hp')]
      exact hz b off hp'
    · intro ha
      have := hn ha
      rw [hps] at this
      simpa using this
    · intro p hp _
      rw [hps]
      simpa using hp
end
theorem list_of2 {α : Type} {Q : Nat → α → Prop} : ∀ n : Nat, (∀ i, i < n → ∃ c, Q i c) → ∃ cs : List α, cs.length = n ∧ ∀ (k : Nat) c, cs[k]? = some c → Q k c
  | 0, _ => ⟨[], rfl, fun k c h => by simp at h⟩
  | n + 1, h => by
    obtain ⟨cs, hl, hall⟩ := list_of2 n (fun i hi => h i (by omega))
    obtain ⟨c, hc⟩ := h n (by omega)
    refine ⟨cs ++ [c], by simp [hl], fun k x hk => ?_⟩
    rw [List.getElem?_append] at hk
    split at hk
    · exact hall k x hk
    · rename_i hge
      obtain ⟨j, hj⟩ : ∃ j, k - cs.length = j := ⟨_, rfl⟩
      rw [hj] at hk
      cases j with
      | zero =>
        simp only [List.getElem?_cons_zero, Option.some.injEq] at hk
        subst hk
        obtain rfl : k = n := by omega
        exact hc
      | succ j => simp at hk
section
variable {H : Type} {enc : TypeId × Value → H} {w : World} {base : Nat} {spare : Nat → Bool} {held : Bool}
theorem list2 {α : Type} {l : List α} (h : l.length = 2) : ∃ a b, l = [a, b] := by
  rcases l with _ | ⟨a, _ | ⟨b, _ | ⟨e, l⟩⟩⟩ <;> simp at h
  exact ⟨a, b, rfl⟩
theorem list8 {α : Type} {l : List α} (h : l.length = 8) : ∃ a b c d a1 b1 c1 d1, l = [a, b, c, d, a1, b1, c1, d1] := by
  obtain ⟨a, b, c, d, e1⟩ := list4 (l := l.take 4) (by simp [h])
  obtain ⟨a1, b1, c1, d1, e2⟩ := list4 (l := l.drop 4) (by simp [h])
  refine ⟨a, b, c, d, a1, b1, c1, d1, ?_⟩
  rw [← List.take_append_drop 4 l, e1, e2]
  simp
theorem open_cost {fuel : Nat} {cs : List Value} {y : DataW H × List MemPlace} (h : DataW.trod enc Tryz.prog w base spare held fuel 23 cs = some y) : ∃ x : Co, cs = [.int .i64 x.a, .int .i64 x.b, .int .i64 x.c, .int .i64 x.d] := by
  have c3 : Tryz.prog.cellsOf 3 = 1 := by kernel_rfl
  have c23 : Tryz.prog.cellsOf 23 = 4 := by kernel_rfl
  obtain ⟨xs, n, rfl, rfl, hl, hlen, hf⟩ := DataW.trod_struct Tryz.underlying23 h
  rw [c23] at hl
  obtain ⟨v0, v1, v2, v3, rfl⟩ := list4 hl
  obtain ⟨y0, y1, y2, y3, rfl⟩ := list4 (show xs.length = 4 by simpa using hlen)
  have k0 := hf 0 _ rfl; have k1 := hf 1 _ rfl; have k2 := hf 2 _ rfl; have k3 := hf 3 _ rfl
  simp [c3] at k0 k1 k2 k3
  obtain ⟨z0, a0, _, _⟩ := DataW.trod_int Tryz.underlying3 k0
  obtain ⟨z1, a1, _, _⟩ := DataW.trod_int Tryz.underlying3 k1
  obtain ⟨z2, a2, _, _⟩ := DataW.trod_int Tryz.underlying3 k2
  obtain ⟨z3, a3, _, _⟩ := DataW.trod_int Tryz.underlying3 k3
  simp only [List.cons.injEq, and_true] at a0 a1 a2 a3
  subst a0; subst a1; subst a2; subst a3
  exact ⟨⟨z0, z1, z2, z3⟩, rfl⟩
set_option maxRecDepth 100000 in
theorem open_pair {b0 : Nat} {r : Reach} {v : Value} {d : DataW H} {p : List MemPlace} (hv : Value.okWide Tryz.prog w r b0 24 v) (h : DataW.Trod enc Tryz.prog w base spare held 24 v d p) : ∃ x y : Co, v = .agg (two8 x y) := by
  have c23 : Tryz.prog.cellsOf 23 = 4 := by kernel_rfl
  have c24 : Tryz.prog.cellsOf 24 = 8 := by kernel_rfl
  obtain ⟨cs, rfl, hsz⟩ := okWide_arr Tryz.underlying24 hv
  obtain ⟨fuel, hf⟩ := h
  obtain ⟨xs, m, rfl, hx, hlen, hl, hel⟩ := DataW.trod_array Tryz.underlying24 hf
  rw [c24] at hlen
  obtain ⟨v0, v1, v2, v3, v4, v5, v6, v7, hcs⟩ := list8 hlen
  obtain ⟨y0, y1, rfl⟩ := list2 hl
  have k0 := hel 0 (by omega); have k1 := hel 1 (by omega)
  rw [hcs] at k0 k1
  simp [c23] at k0 k1
  obtain ⟨x, e0⟩ := open_cost k0
  obtain ⟨y, e1⟩ := open_cost k1
  simp only [List.cons.injEq, and_true] at e0 e1
  obtain ⟨rfl, rfl, rfl, rfl⟩ := e0
  obtain ⟨rfl, rfl, rfl, rfl⟩ := e1
  obtain ⟨l⟩ := cs
  simp [Value.cells] at hcs
  subst hcs
  exact ⟨x, y, rfl⟩
theorem cells_one {a : Addr} {cs : List Value} (h : w.cells? 0 a 1 = some cs) : ∃ v, cs = [v] ∧ w.cell? (a.add 0) = some v := by
  have r1 : List.range 1 = [0] := rfl
  simp only [World.cells?, Nat.zero_le, if_true, r1, List.mapM_cons, List.mapM_nil] at h
  cases h0 : w.cell? (a.add 0) with
  | none => simp [h0] at h
  | some v =>
    simp [h0] at h
    exact ⟨v, h.symm, rfl⟩
theorem plain_add (b o k : Nat) : (⟨b, o, none⟩ : Addr).add k = ⟨b, o + k, none⟩ := by
  cases k <;> simp [Addr.add]
set_option maxRecDepth 100000 in
theorem open_strs {b0 : Nat} {r : Reach} {v : Value} {d : DataW H} {p : List MemPlace} (hv : Value.okWide Tryz.prog w r b0 25 v) (h : DataW.Trod enc Tryz.prog w 0 spare held 25 v d p) :
    ∃ an len cap, v = .slice an len cap ∧ ∃ names : List ByteArray, names.length = len ∧ ∀ (k : Nat) x, names[k]? = some x → (∃ nb no, an = some ⟨nb, no, none⟩ ∧ nb < w.heap.size ∧ w.cell? ⟨nb, no + k, none⟩ = some (.string x)) ∧ x.size ≤ maxLen := by
  have c9 : Tryz.prog.cellsOf 9 = 1 := by kernel_rfl
  obtain ⟨an, len, cap, rfl⟩ := okWide_slice Tryz.underlying25 hv
  obtain ⟨fuel, hf⟩ := h
  refine ⟨an, len, cap, rfl, ?_⟩
  rcases DataW.trod_slice Tryz.underlying25 hf with ⟨hcs, _⟩ | ⟨a, len', cap', elems, rest, n, rfl, hcs, _, _, _, _, hlen, hel, _⟩
  · simp [Value.cells] at hcs
    obtain ⟨_, rfl, _⟩ := hcs
    exact ⟨[], rfl, fun k c h => by simp at h⟩
  · simp [Value.cells] at hcs
    obtain ⟨rfl, rfl, rfl⟩ := hcs
    have one : ∀ i, i < len → ∃ x : ByteArray, w.cell? ((a.add (i * 1)).add 0) = some (.string x) ∧ x.size ≤ maxLen := fun i hi => by
      have hE := hel i hi
      rw [List.getElem?_eq_getElem (by omega), c9] at hE
      simp only [Option.bind_eq_some_iff] at hE
      obtain ⟨cs1, hc1, hy1⟩ := hE
      obtain ⟨v, rfl, f0⟩ := cells_one hc1
      obtain ⟨x, e, _, hs⟩ := DataW.trod_string Tryz.underlying9 hy1
      simp only [List.cons.injEq, and_true] at e
      subst e
      exact ⟨x, f0, hs⟩
    obtain ⟨b, off, spot⟩ := a
    obtain ⟨names, hl, hall⟩ := list_of2 (Q := fun k x => (∃ nb no, some (⟨b, off, spot⟩ : Addr) = some ⟨nb, no, none⟩ ∧ nb < w.heap.size ∧ w.cell? ⟨nb, no + k, none⟩ = some (.string x)) ∧ x.size ≤ maxLen) len fun i hi => by
      have hs : spot = none := by
        obtain ⟨_, f0, _⟩ := one 0 (by omega)
        exact World.cell?_spot f0
      subst hs
      obtain ⟨x, f0, hz⟩ := one i hi
      simp only [plain_add, Nat.add_zero, Nat.mul_one] at f0
      exact ⟨x, ⟨b, off, rfl, World.block_lt_of_cell? _ _ f0, f0⟩, hz⟩
    exact ⟨names, hl, hall⟩
end
end Go.Proofs.YtajccjbigcdkbaaGreatDoor
