/- SpanMatchesReference: the statement holds for every input. -/
import Derived.Test.YtnihhchgnkfcgaaWum
import Derived.Test.YtnihhchgnkfcgaaRaw
import Derived.Test.YtnihhchgnkfcgaaArr
import Derived.Test.YtnihhchgnkfcgaaRows
import Derived.WalkKit
import Derived.ProofKit
import Derived.OpenShut
set_option linter.unusedSimpArgs false
set_option linter.unusedVariables false
namespace Go.Proofs.Ytnihhchgnkfcgaa
open Go.ChangeShapes Go.WideShapes Go.ChangeAt Go.RowKit

theorem match_wf16 {a : Int} (h : (Lit.int .u16 a).wf = true) : 0 ≤ a ∧ a ≤ 65535 := by
  simp [Lit.wf, IntKind.min, IntKind.max, IntKind.signed, IntKind.bits] at h; omega
theorem match_wf8 {a : Int} (h : (Lit.int .u8 a).wf = true) : 0 ≤ a ∧ a ≤ 255 := by
  simp [Lit.wf, IntKind.min, IntKind.max, IntKind.signed, IntKind.bits] at h; omega
theorem match_wf64 {a : Int} (h : (Lit.int .i64 a).wf = true) : -9223372036854775808 ≤ a ∧ a ≤ 9223372036854775807 := by
  simp [Lit.wf, IntKind.min, IntKind.max, IntKind.signed, IntKind.bits] at h; omega

set_option maxRecDepth 100000 in
theorem match_lifted (os : Os) (started : os.Started) (H : Type) (enc : TypeId × Value → H) :
    ReturnsInHanded {} Try.checked os 7 .any (Rows.spanMatchesReferenceSpec.pre6 enc Try.prog Try.f7 Rows.spanMatchesReferenceRow.domain false) (Rows.spanMatchesReferenceSpec.post enc Try.prog Try.f7 false true false false) := by
  refine returnsInHanded_of_change (C := Try.checked) Try.own started (by kernel_rfl) Try.func7
    (ChangeSpec.witness6 (enc := enc) (C := Try.checked) false ⟨#[], #[.agg #[.int .i64 0, .int .u32 0, .int .u16 0], .agg #[.int .i64 0, .int .u32 0, .int .u16 0], .agg #[.int .i64 0, .int .i64 0, .int .i64 0]], []⟩ 8 (by kernel_rfl) (by kernel_rfl) (by kernel_rfl) (by kernel_rfl)) ?_
  intro W base args ds gs before hval0 hW hcnd _
  have hval : ∀ (j : Nat) t v, Try.f7.params[j]? = some t → args[j]? = some v → Value.okWide Try.prog W .any base t v := hval0
  have hW' := hW
  obtain ⟨p, q, hA0, hV, rfl, hfz, hnd⟩ := hW
  have hA : DataW.TrodAll enc Try.prog W 0 (fun _ => true) true Try.f7.params.toList args.toList ds p := hA0
  rw [Try.params7] at hA hval
  obtain ⟨v0, vs0, d0, ds0, p0, q0, hargs, rfl, rfl, h0, r0⟩ := trodAll_cons hA
  obtain ⟨v1, vs1, d1, ds1, p1, q1, rfl, rfl, rfl, h1, r1⟩ := trodAll_cons r0
  obtain ⟨v2, vs2, d2, ds2, p2, q2, rfl, rfl, rfl, h2, r2⟩ := trodAll_cons r1
  obtain ⟨rfl, rfl, rfl⟩ := trodAll_nil r2
  obtain rfl : args = #[v0, v1, v2] := by cases args; simp_all
  obtain ⟨rfl, rfl⟩ := trodVars_none hV
  obtain ⟨a0, b0, c0, rfl, rfl, rfl, wa0, wb0, wc0⟩ := open_raw (hval 0 25 v0 rfl rfl) h0
  obtain ⟨a1, b1, c1, rfl, rfl, rfl, wa1, wb1, wc1⟩ := open_raw (hval 1 25 v1 rfl rfl) h1
  obtain ⟨a2, b2, c2, rfl, rfl, rfl, wa2, wb2, wc2⟩ := open_arr3 Try.underlying51 Try.underlying2 (by kernel_rfl) (by kernel_rfl) (hval 2 51 v2 rfl rfl) h2
  clear hA0 hval0
  simp only [List.append_nil] at hW'
  refine (match_any a0 b0 c0 a1 b1 c1 a2 b2 c2 W (wf_raw wa0 wb0 wc0) (wf_raw wa1 wb1 wc1) (match_wf64 wa2).1 (match_wf64 wa2).2 (match_wf64 wb2).1 (match_wf64 wb2).2 (match_wf64 wc2).1 (match_wf64 wc2).2).mono fun e W' ⟨he, hg⟩ => ?_
  subst he
  exact ⟨_, rfl, post_plain hW' (fun _ _ _ => (trodAll_cons_mk (shut_bool Try.underlying4 _) trodAll_mk0)) (fun sp => (trodAll_cons_mk (shut_raw wa0 wb0 wc0) (trodAll_cons_mk (shut_raw wa1 wb1 wc1) (trodAll_cons_mk (shut_arr3 Try.underlying51 Try.underlying2 (by kernel_rfl) (by kernel_rfl) wa2 wb2 wc2) trodAll_mk0)))) (fun _ => rfl)
    hg (ok_one (by kernel_rfl) rfl (okWide_bool_mk Try.underlying4 _))⟩

theorem match_proved : Rows.SpanMatchesReferenceSaid :=
  OpenClaim.holds_of_wide 7 Try.f7 rfl rfl rfl rfl rfl rfl rfl ⟨rfl, rfl, rfl, rfl, rfl⟩ rfl rfl rfl rfl rfl (by kernel_rfl) Try.func7 (by kernel_rfl)
    (of_decide_eq_true (by kernel_rfl)) (by unfold Func.isWrapper; first | (rw [if_pos (by decide +kernel)]; kernel_rfl) | (rw [if_neg (by decide +kernel)]; exact ⟨rfl, rfl⟩))
    (fun os started H enc _ => match_lifted os started H enc)
#print axioms match_proved
end Go.Proofs.Ytnihhchgnkfcgaa
