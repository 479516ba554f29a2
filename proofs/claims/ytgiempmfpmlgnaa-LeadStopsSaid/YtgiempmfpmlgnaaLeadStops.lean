/- LeadStops: whatever the input, the call returns true, and the input reads as it did. No condition. -/
import Derived.Test.YtgiempmfpmlgnaaRows
import Derived.Test.YtgiempmfpmlgnaaLG
import Derived.Test.YtgiempmfpmlgnaaLJK
namespace Go.Proofs.Ytgiempmfpmlgnaa
open Go.Pk Go.ChangeShapes Go.WideShapes Go.RowKit
set_option maxRecDepth 100000
theorem leadStops_sh : shAll Try.prog 40 Try.f5.params.toList = some [.int .u8, shNTold, shNTold, .int .u8, .int .u8, .int .u8] := by kernel_rfl
theorem leadStops_read : ∀ t ∈ Try.f5.params.toList, Try.prog.readableRec t = true ∧ t < Try.prog.types.size := by
  have h : (Try.f5.params.toList.all fun t => Try.prog.readableRec t && decide (t < Try.prog.types.size)) = true := by kernel_rfl
  intro t ht
  have := List.all_eq_true.1 h t ht
  simpa using this
theorem leadStops_ok : ∀ dss, ShAll [.int .u8, shNTold, shNTold, .int .u8, .int .u8, .int .u8] dss → CallOK Try.prog 5 (argsOf [.int .u8, shNTold, shNTold, .int .u8, .int .u8, .int .u8] dss) (fun r o => r = [.one (.d (.v (.bool true)))] ∧ o = []) := by
  intro dss h
  obtain ⟨d0, dss, rfl, h0, h⟩ := shAll_cons h
  obtain ⟨d1, dss, rfl, h1, h⟩ := shAll_cons h
  obtain ⟨d2, dss, rfl, h2, h⟩ := shAll_cons h
  obtain ⟨d3, dss, rfl, h3, h⟩ := shAll_cons h
  obtain ⟨d4, dss, rfl, h4, h⟩ := shAll_cons h
  obtain ⟨d5, dss, rfl, h5, h⟩ := shAll_cons h
  obtain rfl := shAll_nil h
  obtain ⟨x0, rfl, k0⟩ := byte_of _ h0
  obtain ⟨x1, rfl, k1⟩ := ntold_of _ h1
  obtain ⟨x2, rfl, k2⟩ := ntold_of _ h2
  obtain ⟨x3, rfl, k3⟩ := byte_of _ h3
  obtain ⟨x4, rfl, k4⟩ := byte_of _ h4
  obtain ⟨x5, rfl, k5⟩ := byte_of _ h5
  have := leadStops_of x0 x1 x2 x3 x4 x5 k0 k1 k2 k3 k4 k5
  exact CallOK.le this (by simp [argsOf, argOf, argsLe, aLe, csLe, cLe])
theorem leadStops_own : ownKnob Try.prog.godebug = none := by kernel_rfl
theorem leadStops_laid : laidOutB Try.prog = true := by kernel_rfl
theorem leadStops_fn {H : Type} : ∀ (ds : List (DataW H)), ds.length = Try.f5.params.size → (Rows.leadStopsSpec.fn H ds).results = [.lit (.bool true)] ∧ (Rows.leadStopsSpec.fn H ds).args = ds ∧ (Rows.leadStopsSpec.fn H ds).vars = []
  | [d0, d1, d2, d3, d4, d5], _ => ⟨rfl, rfl, rfl⟩
  | [], h => absurd h (by have e : Try.f5.params.size = 6 := rfl; rw [e]; simp)
  | [d0], h => absurd h (by have e : Try.f5.params.size = 6 := rfl; rw [e]; simp)
  | [d0, d1], h => absurd h (by have e : Try.f5.params.size = 6 := rfl; rw [e]; simp)
  | [d0, d1, d2], h => absurd h (by have e : Try.f5.params.size = 6 := rfl; rw [e]; simp)
  | [d0, d1, d2, d3], h => absurd h (by have e : Try.f5.params.size = 6 := rfl; rw [e]; simp)
  | [d0, d1, d2, d3, d4], h => absurd h (by have e : Try.f5.params.size = 6 := rfl; rw [e]; simp)
  | _ :: _ :: _ :: _ :: _ :: _ :: _ :: _, h => absurd h (by have e : Try.f5.params.size = 6 := rfl; rw [e]; simp)
theorem leadStops_lifted (os : Os) (started : os.Started) (H : Type) (enc : TypeId × Value → H) :
    ReturnsInHanded {} Try.checked os 5 .any (Rows.leadStopsSpec.pre6 enc Try.prog Try.f5 Rows.leadStopsRow.domain false) (Rows.leadStopsSpec.post enc Try.prog Try.f5 false true false false) := by
  refine returnsInHanded_of_change_sized (C := Try.checked) leadStops_own started (by kernel_rfl) Try.func5
    (ChangeSpec.witness6 (enc := enc) (C := Try.checked) false ⟨#[], #[.int .u8 0, .agg #[.int .u8 0, .int .u8 0, .int .u8 0, .int .u8 0, .slice none 0 0], .agg #[.int .u8 0, .int .u8 0, .int .u8 0, .int .u8 0, .slice none 0 0], .int .u8 0, .int .u8 0, .int .u8 0], []⟩ 8 (by kernel_rfl) (by kernel_rfl) (by kernel_rfl) (by kernel_rfl)) ?_
  intro W base args ds gs before hval hW _ hsz _
  exact contract_of (P := Try.prog) (f := 5) (fn := Try.f5) (s := Rows.leadStopsSpec) (n := 40) leadStops_sh rfl leadStops_fn (tb := 4) (by kernel_rfl) Try.underlying4 leadStops_laid leadStops_read leadStops_ok W base args ds gs before hval hW hsz
theorem leadStops_holds : Rows.LeadStopsSaid :=
  OpenClaim.holds_of_wide 5 Try.f5 rfl rfl rfl rfl rfl rfl rfl ⟨rfl, rfl, rfl, rfl, rfl⟩ rfl rfl rfl rfl rfl (by kernel_rfl) Try.func5 (by kernel_rfl)
    (of_decide_eq_true (by kernel_rfl)) (by unfold Func.isWrapper; first | (rw [if_pos (by decide +kernel)]; kernel_rfl) | (rw [if_neg (by decide +kernel)]; exact ⟨rfl, rfl⟩))
    (fun os started H enc _ => leadStops_lifted os started H enc)
end Go.Proofs.Ytgiempmfpmlgnaa
#print axioms Go.Proofs.Ytgiempmfpmlgnaa.leadStops_holds

