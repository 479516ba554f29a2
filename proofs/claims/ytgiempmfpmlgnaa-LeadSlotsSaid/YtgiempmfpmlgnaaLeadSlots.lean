/- LeadSlots: whatever the input, the call returns true, and the input reads as it did. No condition. -/
import Derived.Test.YtgiempmfpmlgnaaRows
import Derived.Test.YtgiempmfpmlgnaaLL
import Derived.Test.YtgiempmfpmlgnaaLJK
namespace Go.Proofs.Ytgiempmfpmlgnaa
open Go.Pk Go.ChangeShapes Go.WideShapes Go.RowKit
set_option maxRecDepth 100000
theorem leadSlots_sh : shAll Try.prog 40 Try.f3.params.toList = some [.int .u8, shNTold, shNTold, .slice 24 (.slice 1 (.int .u8)), .int .u8] := by kernel_rfl
theorem leadSlots_read : ∀ t ∈ Try.f3.params.toList, Try.prog.readableRec t = true ∧ t < Try.prog.types.size := by
  have h : (Try.f3.params.toList.all fun t => Try.prog.readableRec t && decide (t < Try.prog.types.size)) = true := by kernel_rfl
  intro t ht
  have := List.all_eq_true.1 h t ht
  simpa using this
theorem leadSlots_ok : ∀ dss, ShAll [.int .u8, shNTold, shNTold, .slice 24 (.slice 1 (.int .u8)), .int .u8] dss → CallOK Try.prog 3 (argsOf [.int .u8, shNTold, shNTold, .slice 24 (.slice 1 (.int .u8)), .int .u8] dss) (fun r o => r = [.one (.d (.v (.bool true)))] ∧ o = []) := by
  intro dss h
  obtain ⟨d0, dss, rfl, h0, h⟩ := shAll_cons h
  obtain ⟨d1, dss, rfl, h1, h⟩ := shAll_cons h
  obtain ⟨d2, dss, rfl, h2, h⟩ := shAll_cons h
  obtain ⟨d3, dss, rfl, h3, h⟩ := shAll_cons h
  obtain ⟨d4, dss, rfl, h4, h⟩ := shAll_cons h
  obtain rfl := shAll_nil h
  obtain ⟨x0, rfl, k0⟩ := byte_of _ h0
  obtain ⟨x1, rfl, k1⟩ := ntold_of _ h1
  obtain ⟨x2, rfl, k2⟩ := ntold_of _ h2
  obtain ⟨x3, rfl, k3, m3⟩ := nss_of _ h3
  obtain ⟨x4, rfl, k4⟩ := byte_of _ h4
  have := leadSlots_of x0 x1 x2 x3 x4 k0 k1 k2 k3 m3 k4
  exact CallOK.le this (by simp [argsOf, argOf, argsLe, aLe, csLe, cLe])
theorem leadSlots_own : ownKnob Try.prog.godebug = none := by kernel_rfl
theorem leadSlots_laid : laidOutB Try.prog = true := by kernel_rfl
theorem leadSlots_fn {H : Type} : ∀ (ds : List (DataW H)), ds.length = Try.f3.params.size → (Rows.leadSlotsSpec.fn H ds).results = [.lit (.bool true)] ∧ (Rows.leadSlotsSpec.fn H ds).args = ds ∧ (Rows.leadSlotsSpec.fn H ds).vars = []
  | [d0, d1, d2, d3, d4], _ => ⟨rfl, rfl, rfl⟩
  | [], h => absurd h (by have e : Try.f3.params.size = 5 := rfl; rw [e]; simp)
  | [d0], h => absurd h (by have e : Try.f3.params.size = 5 := rfl; rw [e]; simp)
  | [d0, d1], h => absurd h (by have e : Try.f3.params.size = 5 := rfl; rw [e]; simp)
  | [d0, d1, d2], h => absurd h (by have e : Try.f3.params.size = 5 := rfl; rw [e]; simp)
  | [d0, d1, d2, d3], h => absurd h (by have e : Try.f3.params.size = 5 := rfl; rw [e]; simp)
  | _ :: _ :: _ :: _ :: _ :: _ :: _, h => absurd h (by have e : Try.f3.params.size = 5 := rfl; rw [e]; simp)
theorem leadSlots_lifted (os : Os) (started : os.Started) (H : Type) (enc : TypeId × Value → H) :
    ReturnsInHanded {} Try.checked os 3 .any (Rows.leadSlotsSpec.pre6 enc Try.prog Try.f3 Rows.leadSlotsRow.domain false) (Rows.leadSlotsSpec.post enc Try.prog Try.f3 false true false false) := by
  refine returnsInHanded_of_change_sized (C := Try.checked) leadSlots_own started (by kernel_rfl) Try.func3
    (ChangeSpec.witness6 (enc := enc) (C := Try.checked) false ⟨#[], #[.int .u8 0, .agg #[.int .u8 0, .int .u8 0, .int .u8 0, .int .u8 0, .slice none 0 0], .agg #[.int .u8 0, .int .u8 0, .int .u8 0, .int .u8 0, .slice none 0 0], .slice none 0 0, .int .u8 0], []⟩ 8 (by kernel_rfl) (by kernel_rfl) (by kernel_rfl) (by kernel_rfl)) ?_
  intro W base args ds gs before hval hW _ hsz _
  exact contract_of (P := Try.prog) (f := 3) (fn := Try.f3) (s := Rows.leadSlotsSpec) (n := 40) leadSlots_sh rfl leadSlots_fn (tb := 4) (by kernel_rfl) Try.underlying4 leadSlots_laid leadSlots_read leadSlots_ok W base args ds gs before hval hW hsz
theorem leadSlots_holds : Rows.LeadSlotsSaid :=
  OpenClaim.holds_of_wide 3 Try.f3 rfl rfl rfl rfl rfl rfl rfl ⟨rfl, rfl, rfl, rfl, rfl⟩ rfl rfl rfl rfl rfl (by kernel_rfl) Try.func3 (by kernel_rfl)
    (of_decide_eq_true (by kernel_rfl)) (by unfold Func.isWrapper; first | (rw [if_pos (by decide +kernel)]; kernel_rfl) | (rw [if_neg (by decide +kernel)]; exact ⟨rfl, rfl⟩))
    (fun os started H enc _ => leadSlots_lifted os started H enc)
end Go.Proofs.Ytgiempmfpmlgnaa
#print axioms Go.Proofs.Ytgiempmfpmlgnaa.leadSlots_holds

