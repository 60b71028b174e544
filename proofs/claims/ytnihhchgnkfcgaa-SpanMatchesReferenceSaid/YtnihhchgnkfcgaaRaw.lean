/- How a description of a span, given by value, is opened and shut as the reader reads it. -/
import Derived.Test.YtnihhchgnkfcgaaWl
import Derived.ProofKit
import Derived.OpenShut
import Derived.Lib.SmallJoins
set_option linter.unusedSimpArgs false
set_option linter.unusedVariables false
namespace Go.Proofs.Ytnihhchgnkfcgaa
open Go.ChangeShapes Go.WideShapes Go.ChangeAt Go.RowKit

theorem Try.own : ownKnob Try.prog.godebug = none := by kernel_rfl
/-- The numbers of a description of a span fit their kinds. -/
structure RawB (a b c : Int) : Prop where
  a1 : -9223372036854775808 ≤ a
  a2 : a ≤ 9223372036854775807
  b1 : 0 ≤ b
  b2 : b ≤ 4294967295
  c1 : 0 ≤ c
  c2 : c ≤ 65535
def rawD {H : Type} (a b c : Int) : DataW H := .agg [.lit (.int .i64 a), .lit (.int .u32 b), .lit (.int .u16 c)]
section
variable {H : Type} {enc : TypeId × Value → H} {w : World} {base : Nat} {spare : Nat → Bool} {held : Bool}
theorem wf_raw {a b c : Int} (h1 : (Lit.int .i64 a).wf = true) (h2 : (Lit.int .u32 b).wf = true) (h3 : (Lit.int .u16 c).wf = true) : RawB a b c := by
  simp [Lit.wf, IntKind.min, IntKind.max, IntKind.signed, IntKind.bits] at h1 h2 h3
  exact ⟨by omega, by omega, by omega, by omega, by omega, by omega⟩
theorem open_raw {r : Reach} {b0 : Nat} {v : Value} {d : DataW H} {p : List MemPlace} (hv : Value.okWide Try.prog w r b0 25 v) (h : DataW.Trod enc Try.prog w base spare held 25 v d p) :
    ∃ a b c, v = rawv a b c ∧ d = rawD a b c ∧ p = [] ∧ (Lit.int .i64 a).wf = true ∧ (Lit.int .u32 b).wf = true ∧ (Lit.int .u16 c).wf = true := by
  obtain ⟨v0, v1, v2, y0, y1, y2, n, rfl, rfl, rfl, h0, h1, h2⟩ := Joins.open_agg3 Try.underlying25 (by kernel_rfl) (by kernel_rfl) hv h
  obtain ⟨a, e0, rfl, wa⟩ := DataW.trod_int Try.underlying2 h0
  obtain ⟨b, e1, rfl, wb⟩ := DataW.trod_int Try.underlying22 h1
  obtain ⟨c, e2, rfl, wc⟩ := DataW.trod_int Try.underlying23 h2
  simp only [List.cons.injEq, and_true] at e0 e1 e2
  subst e0; subst e1; subst e2
  exact ⟨a, b, c, rfl, rfl, rfl, wa, wb, wc⟩
theorem shut_raw {a b c : Int} (h1 : (Lit.int .i64 a).wf = true) (h2 : (Lit.int .u32 b).wf = true) (h3 : (Lit.int .u16 c).wf = true) : DataW.Trod enc Try.prog w base spare held 25 (rawv a b c) (rawD a b c) [] := by
  have := Joins.shut_agg3 (enc := enc) (P := Try.prog) (w := w) (base := base) (spare := spare) (held := held) (v0 := .int .i64 a) (v1 := .int .u32 b) (v2 := .int .u16 c) (y0 := (.lit (.int .i64 a), [])) (y1 := (.lit (.int .u32 b), [])) (y2 := (.lit (.int .u16 c), [])) Try.underlying25 (by kernel_rfl) (by kernel_rfl)
    ⟨_, trod_int_mk 0 Try.underlying2 h1⟩ ⟨_, trod_int_mk 0 Try.underlying22 h2⟩ ⟨_, trod_int_mk 0 Try.underlying23 h3⟩
  exact this
end

section
variable {H : Type} {enc : TypeId × Value → H} {P : Program}
/-- A row's last step for rows whose input holds no memory at all: the walk leaves 'Below' alone. -/
theorem post_plain {f : Func} {s : ChangeSpec} {apart fresh handsOn again : Bool} {W W' : World} {args : Array Value} {v : Value} {ds gs : List (DataW H)}
    (hW : DataW.Whole enc P f.params.toList s.vars apart W args.toList ds gs [])
    (hres : ∀ (b : Nat) (sp : Nat → Bool) (hd : Bool), DataW.TrodAll enc P W' b sp hd f.resultTypes.toList (v.resultList f.resultTypes.size) (s.fn H (ds ++ gs)).results [])
    (hargs : ∀ sp : Nat → Bool, DataW.TrodAll enc P W' 0 sp true f.params.toList args.toList (s.fn H (ds ++ gs)).args [])
    (hvars : ∀ sp : Nat → Bool, DataW.TrodVars enc P W' sp s.vars (s.fn H (ds ++ gs)).vars []) (hb : Below W.heap.size W W')
    (hok : ∀ (j : Nat) (t : TypeId) (r : Value), f.resultTypes[j]? = some t → (v.resultList f.resultTypes.size)[j]? = some r → Value.okWide P W' .any 0 t r) :
    s.post enc P f apart fresh handsOn again W args v W' := by
  refine ⟨ds, gs, [], [], [], [], hW, hres _ _ _, hargs _, hvars _, World.keptBut_mono (fun p hp => ?_) (hb.frame (fun p => p ∈ ([] : List MemPlace))), fun _ => ⟨hok, _, _, [], ⟨[], [], trodAll_append (hargs _) (hres _ _ _), hvars _, rfl, fun b off hp => ?_, fun _ => List.nodup_nil⟩, fun p hp => ?_⟩⟩ <;> cases hp
end
end Go.Proofs.Ytnihhchgnkfcgaa
