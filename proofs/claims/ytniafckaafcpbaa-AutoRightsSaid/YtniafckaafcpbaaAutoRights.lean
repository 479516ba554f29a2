/- AutoRights: whatever the input, the call returns true, and the input reads as it did. No condition. -/
import Derived.Test.YtniafckaafcpbaaRows
import Derived.Test.YtniafckaafcpbaaRA
import Derived.Test.YtniafckaafcpbaaTY
namespace Go.Proofs.Ytniafckaafcpbaa
open Go.Pk Go.ChangeShapes Go.WideShapes Go.RowKit
set_option maxRecDepth 100000
theorem autoRights_sh : shAll Try.prog 40 Try.f3.params.toList = some [.slice 6 shAct, .int .u8] := by kernel_rfl
theorem autoRights_read : ∀ t ∈ Try.f3.params.toList, Try.prog.readableRec t = true ∧ t < Try.prog.types.size := by
  have h : (Try.f3.params.toList.all fun t => Try.prog.readableRec t && decide (t < Try.prog.types.size)) = true := by kernel_rfl
  intro t ht
  have := List.all_eq_true.1 h t ht
  simpa using this
theorem autoRights_ok : ∀ dss, ShAll [.slice 6 shAct, .int .u8] dss → CallOK Try.prog 3 (argsOf [.slice 6 shAct, .int .u8] dss) (fun r o => r = [.one (.d (.v (.bool true)))] ∧ o = []) := by
  intro dss h
  obtain ⟨d0, dss, rfl, h0, h⟩ := shAll_cons h
  obtain ⟨d1, dss, rfl, h1, h⟩ := shAll_cons h
  obtain rfl := shAll_nil h
  obtain ⟨x0, rfl, k0, m0⟩ := acts_of _ h0
  obtain ⟨x1, rfl, k1⟩ := byte_of _ h1
  have := autoRights_of x0 k0 m0 x1 k1
  exact CallOK.le this (by simp [argsOf, argOf, argsLe, aLe, csLe, cLe])
theorem autoRights_own : ownKnob Try.prog.godebug = none := by kernel_rfl
theorem autoRights_laid : laidOutB Try.prog = true := by kernel_rfl
theorem autoRights_fn {H : Type} : ∀ (ds : List (DataW H)), ds.length = Try.f3.params.size → (Rows.autoRightsSpec.fn H ds).results = [.lit (.bool true)] ∧ (Rows.autoRightsSpec.fn H ds).args = ds ∧ (Rows.autoRightsSpec.fn H ds).vars = []
  | [d0, d1], _ => ⟨rfl, rfl, rfl⟩
  | [], h => absurd h (by have e : Try.f3.params.size = 2 := rfl; rw [e]; simp)
  | [d0], h => absurd h (by have e : Try.f3.params.size = 2 := rfl; rw [e]; simp)
  | _ :: _ :: _ :: _, h => absurd h (by have e : Try.f3.params.size = 2 := rfl; rw [e]; simp)
theorem autoRights_lifted (os : Os) (started : os.Started) (H : Type) (enc : TypeId × Value → H) :
    ReturnsInHanded {} Try.checked os 3 .any (Rows.autoRightsSpec.pre6 enc Try.prog Try.f3 Rows.autoRightsRow.domain false) (Rows.autoRightsSpec.post enc Try.prog Try.f3 false true false false) := by
  refine returnsInHanded_of_change_sized (C := Try.checked) autoRights_own started (by kernel_rfl) Try.func3
    (ChangeSpec.witness6 (enc := enc) (C := Try.checked) false ⟨#[], #[.slice none 0 0, .int .u8 0], []⟩ 8 (by kernel_rfl) (by kernel_rfl) (by kernel_rfl) (by kernel_rfl)) ?_
  intro W base args ds gs before hval hW _ hsz _
  exact contract_of (P := Try.prog) (f := 3) (fn := Try.f3) (s := Rows.autoRightsSpec) (n := 40) autoRights_sh rfl autoRights_fn (tb := 4) (by kernel_rfl) Try.underlying4 autoRights_laid autoRights_read autoRights_ok W base args ds gs before hval hW hsz
theorem autoRights_holds : Rows.AutoRightsSaid :=
  OpenClaim.holds_of_wide 3 Try.f3 rfl rfl rfl rfl rfl rfl rfl ⟨rfl, rfl, rfl, rfl, rfl⟩ rfl rfl rfl rfl rfl (by kernel_rfl) Try.func3 (by kernel_rfl)
    (of_decide_eq_true (by kernel_rfl)) (by unfold Func.isWrapper; first | (rw [if_pos (by decide +kernel)]; kernel_rfl) | (rw [if_neg (by decide +kernel)]; exact ⟨rfl, rfl⟩))
    (fun os started H enc _ => autoRights_lifted os started H enc)
end Go.Proofs.Ytniafckaafcpbaa
#print axioms Go.Proofs.Ytniafckaafcpbaa.autoRights_holds

