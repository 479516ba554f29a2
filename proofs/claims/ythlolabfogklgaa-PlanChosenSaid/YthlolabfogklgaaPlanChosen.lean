/- PlanChosen: whatever the input, the call returns true, and the input reads as it did. No condition. -/
import Derived.Test.YthlolabfogklgaaRows
import Derived.Test.YthlolabfogklgaaAG
namespace Go.Proofs.Ythlolabfogklgaa
open Go.Pk Go.ChangeShapes Go.WideShapes Go.RowKit
set_option maxRecDepth 100000
theorem planChosen_own : ownKnob Try.prog.godebug = none := by kernel_rfl
theorem planChosen_laid : laidOutB Try.prog = true := by kernel_rfl
theorem planChosen_fn {H : Type} : ∀ (ds : List (DataW H)), ds.length = Try.f6.params.size → (Rows.planChosenSpec.fn H ds).results = [.lit (.bool true)] ∧ (Rows.planChosenSpec.fn H ds).args = ds ∧ (Rows.planChosenSpec.fn H ds).vars = []
  | [d0, d1, d2, d3, d4, d5, d6], _ => ⟨rfl, rfl, rfl⟩
  | [], h => absurd h (by have e : Try.f6.params.size = 7 := rfl; rw [e]; simp)
  | [d0], h => absurd h (by have e : Try.f6.params.size = 7 := rfl; rw [e]; simp)
  | [d0, d1], h => absurd h (by have e : Try.f6.params.size = 7 := rfl; rw [e]; simp)
  | [d0, d1, d2], h => absurd h (by have e : Try.f6.params.size = 7 := rfl; rw [e]; simp)
  | [d0, d1, d2, d3], h => absurd h (by have e : Try.f6.params.size = 7 := rfl; rw [e]; simp)
  | [d0, d1, d2, d3, d4], h => absurd h (by have e : Try.f6.params.size = 7 := rfl; rw [e]; simp)
  | [d0, d1, d2, d3, d4, d5], h => absurd h (by have e : Try.f6.params.size = 7 := rfl; rw [e]; simp)
  | _ :: _ :: _ :: _ :: _ :: _ :: _ :: _ :: _, h => absurd h (by have e : Try.f6.params.size = 7 := rfl; rw [e]; simp)
theorem planChosen_lifted (os : Os) (started : os.Started) (H : Type) (enc : TypeId × Value → H) :
    ReturnsInHanded {} Try.checked os 6 .any (Rows.planChosenSpec.pre6 enc Try.prog Try.f6 Rows.planChosenRow.domain false) (Rows.planChosenSpec.post enc Try.prog Try.f6 false true false false) := by
  refine returnsInHanded_of_change_sized (C := Try.checked) planChosen_own started (by kernel_rfl) Try.func6
    (ChangeSpec.witness6 (enc := enc) (C := Try.checked) false ⟨#[], #[.slice none 0 0, .int .u8 0, .int .u8 0, .int .u8 0, .slice none 0 0, .int .u8 0, .int .u8 0], []⟩ 8 (by kernel_rfl) (by kernel_rfl) (by kernel_rfl) (by kernel_rfl)) ?_
  intro W base args ds gs before hval hW _ hsz _
  exact contract_of (P := Try.prog) (f := 6) (fn := Try.f6) (s := Rows.planChosenSpec) (n := 40) planChosen_sh rfl planChosen_fn (tb := 4) (by kernel_rfl) Try.underlying4 planChosen_laid planChosen_read planChosen_ok W base args ds gs before hval hW hsz
theorem planChosen_holds : Rows.PlanChosenSaid :=
  OpenClaim.holds_of_wide 6 Try.f6 rfl rfl rfl rfl rfl rfl rfl ⟨rfl, rfl, rfl, rfl, rfl⟩ rfl rfl rfl rfl rfl (by kernel_rfl) Try.func6 (by kernel_rfl)
    (of_decide_eq_true (by kernel_rfl)) (by unfold Func.isWrapper; first | (rw [if_pos (by decide +kernel)]; kernel_rfl) | (rw [if_neg (by decide +kernel)]; exact ⟨rfl, rfl⟩))
    (fun os started H enc _ => planChosen_lifted os started H enc)
end Go.Proofs.Ythlolabfogklgaa
#print axioms Go.Proofs.Ythlolabfogklgaa.planChosen_holds
