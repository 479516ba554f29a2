/- PlanOrder: its arguments. -/
import Derived.Test.YthlolabfogklgaaAB
import Derived.Test.YthlolabfogklgaaY
namespace Go.Proofs.Ythlolabfogklgaa
open Go.Pk
set_option maxRecDepth 100000
theorem planOrder_sh : shAll Try.prog 40 Try.f5.params.toList = some [.slice 32 shNTold, .int .u8] := by kernel_rfl
theorem planOrder_read : ∀ t ∈ Try.f5.params.toList, Try.prog.readableRec t = true ∧ t < Try.prog.types.size := by
  have h : (Try.f5.params.toList.all fun t => Try.prog.readableRec t && decide (t < Try.prog.types.size)) = true := by kernel_rfl
  intro t ht
  have := List.all_eq_true.1 h t ht
  simpa using this
theorem planOrder_ok : ∀ dss, ShAll [.slice 32 shNTold, .int .u8] dss → CallOK Try.prog 5 (argsOf [.slice 32 shNTold, .int .u8] dss) (fun r o => r = [.one (.d (.v (.bool true)))] ∧ o = []) := by
  intro dss h
  match dss, h with
  | [ds, es], h =>
    obtain ⟨h, h', _⟩ := h
    rw [ShD] at h
    obtain ⟨xs, rfl, hx1, hx2⟩ := h
    obtain ⟨l, l1, l2, l3⟩ := list_of ntold_of xs hx2
    obtain ⟨w, rfl, hw⟩ := byte_of _ h'
    have := reach60
    have := planOrder_of l w hw (by omega) l3
    rw [← l1, l2]
    exact CallOK.le this (by simp [argsOf, argOf, argsLe, aLe, csLe, cLe])
end Go.Proofs.Ythlolabfogklgaa

