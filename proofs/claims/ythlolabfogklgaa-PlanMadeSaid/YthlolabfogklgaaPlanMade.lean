/- PlanMade: whatever the input, the call returns true, and the input reads as it did. No condition. -/
import Derived.Test.YthlolabfogklgaaRows
import Derived.Test.YthlolabfogklgaaY
namespace Go.Proofs.Ythlolabfogklgaa
open Go.Pk Go.ChangeShapes Go.WideShapes Go.RowKit
set_option maxRecDepth 100000
theorem planMade_own : ownKnob Try.prog.godebug = none := by kernel_rfl
theorem planMade_laid : laidOutB Try.prog = true := by kernel_rfl
theorem planMade_fn {H : Type} : ∀ (ds : List (DataW H)), ds.length = Try.f4.params.size → (Rows.planMadeSpec.fn H ds).results = [.lit (.bool true)] ∧ (Rows.planMadeSpec.fn H ds).args = ds ∧ (Rows.planMadeSpec.fn H ds).vars = []
  | [d0, d1], _ => ⟨rfl, rfl, rfl⟩
  | [], h => absurd h (by have e : Try.f4.params.size = 2 := rfl; rw [e]; simp)
  | [d0], h => absurd h (by have e : Try.f4.params.size = 2 := rfl; rw [e]; simp)
  | _ :: _ :: _ :: _, h => absurd h (by have e : Try.f4.params.size = 2 := rfl; rw [e]; simp)
theorem planMade_lifted (os : Os) (started : os.Started) (H : Type) (enc : TypeId × Value → H) :
    ReturnsInHanded {} Try.checked os 4 .any (Rows.planMadeSpec.pre6 enc Try.prog Try.f4 Rows.planMadeRow.domain false) (Rows.planMadeSpec.post enc Try.prog Try.f4 false true false false) := by
  refine returnsInHanded_of_change_sized (C := Try.checked) planMade_own started (by kernel_rfl) Try.func4
    (ChangeSpec.witness6 (enc := enc) (C := Try.checked) false ⟨#[], #[.slice none 0 0, .int .u8 0], []⟩ 8 (by kernel_rfl) (by kernel_rfl) (by kernel_rfl) (by kernel_rfl)) ?_
  intro W base args ds gs before hval hW _ hsz _
  exact contract_of (P := Try.prog) (f := 4) (fn := Try.f4) (s := Rows.planMadeSpec) (n := 40) planMade_sh rfl planMade_fn (tb := 4) (by kernel_rfl) Try.underlying4 planMade_laid planMade_read planMade_ok W base args ds gs before hval hW hsz
theorem planMade_holds : Rows.PlanMadeSaid :=
  OpenClaim.holds_of_wide 4 Try.f4 rfl rfl rfl rfl rfl rfl rfl ⟨rfl, rfl, rfl, rfl, rfl⟩ rfl rfl rfl rfl rfl (by kernel_rfl) Try.func4 (by kernel_rfl)
    (of_decide_eq_true (by kernel_rfl)) (by unfold Func.isWrapper; first | (rw [if_pos (by decide +kernel)]; kernel_rfl) | (rw [if_neg (by decide +kernel)]; exact ⟨rfl, rfl⟩))
    (fun os started H enc _ => planMade_lifted os started H enc)
end Go.Proofs.Ythlolabfogklgaa
#print axioms Go.Proofs.Ythlolabfogklgaa.planMade_holds
