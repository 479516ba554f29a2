/- PlanChosen: its arguments. -/
import Derived.Test.YthlolabfogklgaaAE
import Derived.Test.YthlolabfogklgaaY
namespace Go.Proofs.Ythlolabfogklgaa
open Go.Pk
set_option maxRecDepth 100000
theorem planChosen_sh : shAll Try.prog 40 Try.f6.params.toList = some [.slice 32 shNTold, .int .u8, .int .u8, .int .u8, .slice 1 (.int .u8), .int .u8, .int .u8] := by kernel_rfl
theorem planChosen_read : ∀ t ∈ Try.f6.params.toList, Try.prog.readableRec t = true ∧ t < Try.prog.types.size := by
  have h : (Try.f6.params.toList.all fun t => Try.prog.readableRec t && decide (t < Try.prog.types.size)) = true := by kernel_rfl
  intro t ht
  have := List.all_eq_true.1 h t ht
  simpa using this
theorem planChosen_ok : ∀ dss, ShAll [.slice 32 shNTold, .int .u8, .int .u8, .int .u8, .slice 1 (.int .u8), .int .u8, .int .u8] dss → CallOK Try.prog 6 (argsOf [.slice 32 shNTold, .int .u8, .int .u8, .int .u8, .slice 1 (.int .u8), .int .u8, .int .u8] dss) (fun r o => r = [.one (.d (.v (.bool true)))] ∧ o = []) := by
  intro dss h
  match dss, h with
  | [d0, d1, d2, d3, d4, d5, d6], h =>
    obtain ⟨h0, h1, h2, h3, h4, h5, h6, _⟩ := h
    rw [ShD] at h0
    obtain ⟨xs, rfl, hx1, hx2⟩ := h0
    obtain ⟨l, l1, l2, l3⟩ := list_of ntold_of xs hx2
    obtain ⟨n, rfl, hn⟩ := byte_of _ h1
    obtain ⟨sl, rfl, hs⟩ := byte_of _ h2
    obtain ⟨ba, rfl, hb⟩ := byte_of _ h3
    obtain ⟨ns, rfl, m1, m2⟩ := ns_of _ h4
    obtain ⟨vo, rfl, hv⟩ := byte_of _ h5
    obtain ⟨ak, rfl, ha⟩ := byte_of _ h6
    have := reach60
    have := planChosen_of l n sl ba ns vo ak (by omega) l3 hn hs hb m1 m2 hv ha
    rw [← l1, l2]
    exact CallOK.le this (by simp [argsOf, argOf, argsLe, aLe, csLe, cLe])
end Go.Proofs.Ythlolabfogklgaa

