/- PlanRaw: whatever the input, the call returns true, and the input reads as it did. No condition. -/
import Derived.Test.YthlolabfogklgaaRows
import Derived.Test.YthlolabfogklgaaS
namespace Go.Proofs.Ythlolabfogklgaa
open Go.Pk Go.ChangeShapes Go.WideShapes Go.RowKit
set_option maxRecDepth 100000
theorem planRaw_own : ownKnob Try.prog.godebug = none := by kernel_rfl
theorem planRaw_laid : laidOutB Try.prog = true := by kernel_rfl
theorem planRaw_fn {H : Type} : ∀ (ds : List (DataW H)), ds.length = Try.f3.params.size → (Rows.planRawSpec.fn H ds).results = [.lit (.bool true)] ∧ (Rows.planRawSpec.fn H ds).args = ds ∧ (Rows.planRawSpec.fn H ds).vars = []
  | [d0], _ => ⟨rfl, rfl, rfl⟩
  | [], h => absurd h (by have e : Try.f3.params.size = 1 := rfl; rw [e]; simp)
  | _ :: _ :: _, h => absurd h (by have e : Try.f3.params.size = 1 := rfl; rw [e]; simp)
theorem planRaw_lifted (os : Os) (started : os.Started) (H : Type) (enc : TypeId × Value → H) :
    ReturnsInHanded {} Try.checked os 3 .any (Rows.planRawSpec.pre6 enc Try.prog Try.f3 Rows.planRawRow.domain false) (Rows.planRawSpec.post enc Try.prog Try.f3 false true false false) := by
  refine returnsInHanded_of_change_sized (C := Try.checked) planRaw_own started (by kernel_rfl) Try.func3
    (ChangeSpec.witness6 (enc := enc) (C := Try.checked) false ⟨#[], #[.slice none 0 0], []⟩ 8 (by kernel_rfl) (by kernel_rfl) (by kernel_rfl) (by kernel_rfl)) ?_
  intro W base args ds gs before hval hW _ hsz _
  exact contract_of (P := Try.prog) (f := 3) (fn := Try.f3) (s := Rows.planRawSpec) (n := 40) planRaw_sh rfl planRaw_fn (tb := 4) (by kernel_rfl) Try.underlying4 planRaw_laid planRaw_read planRaw_ok W base args ds gs before hval hW hsz
theorem planRaw_holds : Rows.PlanRawSaid :=
  OpenClaim.holds_of_wide 3 Try.f3 rfl rfl rfl rfl rfl rfl rfl ⟨rfl, rfl, rfl, rfl, rfl⟩ rfl rfl rfl rfl rfl (by kernel_rfl) Try.func3 (by kernel_rfl)
    (of_decide_eq_true (by kernel_rfl)) (by unfold Func.isWrapper; first | (rw [if_pos (by decide +kernel)]; kernel_rfl) | (rw [if_neg (by decide +kernel)]; exact ⟨rfl, rfl⟩))
    (fun os started H enc _ => planRaw_lifted os started H enc)
end Go.Proofs.Ythlolabfogklgaa
#print axioms Go.Proofs.Ythlolabfogklgaa.planRaw_holds
