/- PlanOrder: whatever the input, the call returns true, and the input reads as it did. No condition. -/
import Derived.Test.YthlolabfogklgaaRows
import Derived.Test.YthlolabfogklgaaAF
namespace Go.Proofs.Ythlolabfogklgaa
open Go.Pk Go.ChangeShapes Go.WideShapes Go.RowKit
set_option maxRecDepth 100000
theorem planOrder_own : ownKnob Try.prog.godebug = none := by kernel_rfl
theorem planOrder_laid : laidOutB Try.prog = true := by kernel_rfl
theorem planOrder_fn {H : Type} : ∀ (ds : List (DataW H)), ds.length = Try.f5.params.size → (Rows.planOrderSpec.fn H ds).results = [.lit (.bool true)] ∧ (Rows.planOrderSpec.fn H ds).args = ds ∧ (Rows.planOrderSpec.fn H ds).vars = []
  | [d0, d1], _ => ⟨rfl, rfl, rfl⟩
  | [], h => absurd h (by have e : Try.f5.params.size = 2 := rfl; rw [e]; simp)
  | [d0], h => absurd h (by have e : Try.f5.params.size = 2 := rfl; rw [e]; simp)
  | _ :: _ :: _ :: _, h => absurd h (by have e : Try.f5.params.size = 2 := rfl; rw [e]; simp)
theorem planOrder_lifted (os : Os) (started : os.Started) (H : Type) (enc : TypeId × Value → H) :
    ReturnsInHanded {} Try.checked os 5 .any (Rows.planOrderSpec.pre6 enc Try.prog Try.f5 Rows.planOrderRow.domain false) (Rows.planOrderSpec.post enc Try.prog Try.f5 false true false false) := by
  refine returnsInHanded_of_change_sized (C := Try.checked) planOrder_own started (by kernel_rfl) Try.func5
    (ChangeSpec.witness6 (enc := enc) (C := Try.checked) false ⟨#[], #[.slice none 0 0, .int .u8 0], []⟩ 8 (by kernel_rfl) (by kernel_rfl) (by kernel_rfl) (by kernel_rfl)) ?_
  intro W base args ds gs before hval hW _ hsz _
  exact contract_of (P := Try.prog) (f := 5) (fn := Try.f5) (s := Rows.planOrderSpec) (n := 40) planOrder_sh rfl planOrder_fn (tb := 4) (by kernel_rfl) Try.underlying4 planOrder_laid planOrder_read planOrder_ok W base args ds gs before hval hW hsz
theorem planOrder_holds : Rows.PlanOrderSaid :=
  OpenClaim.holds_of_wide 5 Try.f5 rfl rfl rfl rfl rfl rfl rfl ⟨rfl, rfl, rfl, rfl, rfl⟩ rfl rfl rfl rfl rfl (by kernel_rfl) Try.func5 (by kernel_rfl)
    (of_decide_eq_true (by kernel_rfl)) (by unfold Func.isWrapper; first | (rw [if_pos (by decide +kernel)]; kernel_rfl) | (rw [if_neg (by decide +kernel)]; exact ⟨rfl, rfl⟩))
    (fun os started H enc _ => planOrder_lifted os started H enc)
end Go.Proofs.Ythlolabfogklgaa
#print axioms Go.Proofs.Ythlolabfogklgaa.planOrder_holds
