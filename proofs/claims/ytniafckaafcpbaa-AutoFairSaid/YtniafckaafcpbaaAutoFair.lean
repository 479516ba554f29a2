import Derived.Test.YtniafckaafcpbaaRows
import Derived.Test.YtniafckaafcpbaaFD
import Derived.Test.YtniafckaafcpbaaTY
namespace Go.Proofs.Ytniafckaafcpbaa
open Go.Pk Go.ChangeShapes Go.WideShapes Go.RowKit
set_option maxRecDepth 100000
theorem zg9 : shAll Try.prog 40 Try.f4.params.toList = some [.slice 1 (.int .u8), .slice 1 (.int .u8), .int .u8] := by kernel_rfl
theorem zfo : ∀ t ∈ Try.f4.params.toList, Try.prog.readableRec t = true ∧ t < Try.prog.types.size := by
  have h : (Try.f4.params.toList.all fun t => Try.prog.readableRec t && decide (t < Try.prog.types.size)) = true := by kernel_rfl
  intro t ht
  have := List.all_eq_true.1 h t ht
  simpa using this
theorem zha : ∀ dss, ShAll [.slice 1 (.int .u8), .slice 1 (.int .u8), .int .u8] dss → CallOK Try.prog 4 (argsOf [.slice 1 (.int .u8), .slice 1 (.int .u8), .int .u8] dss) (fun r o => r = [.one (.d (.v (.bool true)))] ∧ o = []) := by
  intro dss h
  obtain ⟨d0, dss, rfl, h0, h⟩ := zdI h
  obtain ⟨d1, dss, rfl, h1, h⟩ := zdI h
  obtain ⟨d2, dss, rfl, h2, h⟩ := zdI h
  obtain rfl := shAll_nil h
  obtain ⟨x0, rfl, k0, m0⟩ := ns_of _ h0
  obtain ⟨x1, rfl, k1, m1⟩ := ns_of _ h1
  obtain ⟨x2, rfl, k2⟩ := byte_of _ h2
  have := zhw x0 k0 m0 x1 k1 m1 x2 k2
  exact CallOK.le this (by simp [argsOf, argOf, argsLe, aLe, csLe, cLe])
theorem zfZ : ownKnob Try.prog.godebug = none := by kernel_rfl
theorem zfp : laidOutB Try.prog = true := by kernel_rfl
theorem zhb {H : Type} : ∀ (ds : List (DataW H)), ds.length = Try.f4.params.size → (Rows.autoFairSpec.fn H ds).results = [.lit (.bool true)] ∧ (Rows.autoFairSpec.fn H ds).args = ds ∧ (Rows.autoFairSpec.fn H ds).vars = []
  | [d0, d1, d2], _ => ⟨rfl, rfl, rfl⟩
  | [], h => absurd h (by have e : Try.f4.params.size = 3 := rfl; rw [e]; simp)
  | [d0], h => absurd h (by have e : Try.f4.params.size = 3 := rfl; rw [e]; simp)
  | [d0, d1], h => absurd h (by have e : Try.f4.params.size = 3 := rfl; rw [e]; simp)
  | _ :: _ :: _ :: _ :: _, h => absurd h (by have e : Try.f4.params.size = 3 := rfl; rw [e]; simp)
theorem zei (os : Os) (started : os.Started) (H : Type) (enc : TypeId × Value → H) :
    ReturnsInHanded {} Try.checked os 4 .any (Rows.autoFairSpec.pre6 enc Try.prog Try.f4 Rows.autoFairRow.domain false) (Rows.autoFairSpec.post enc Try.prog Try.f4 false true false false) := by
  refine returnsInHanded_of_change_sized (C := Try.checked) zfZ started (by kernel_rfl) Try.func4
    (ChangeSpec.witness6 (enc := enc) (C := Try.checked) false ⟨#[], #[.slice none 0 0, .slice none 0 0, .int .u8 0], []⟩ 8 (by kernel_rfl) (by kernel_rfl) (by kernel_rfl) (by kernel_rfl)) ?_
  intro W base args ds gs before hval hW _ hsz _
  exact zhg (P := Try.prog) (f := 4) (fn := Try.f4) (s := Rows.autoFairSpec) (n := 40) zg9 rfl zhb (tb := 4) (by kernel_rfl) Try.underlying4 zfp zfo zha W base args ds gs before hval hW hsz
theorem autoFair_holds : Rows.AutoFairSaid :=
  OpenClaim.holds_of_wide 4 Try.f4 rfl rfl rfl rfl rfl rfl rfl ⟨rfl, rfl, rfl, rfl, rfl⟩ rfl rfl rfl rfl rfl (by kernel_rfl) Try.func4 (by kernel_rfl)
    (of_decide_eq_true (by kernel_rfl)) (by unfold Func.isWrapper; first | (rw [if_pos (by decide +kernel)]; kernel_rfl) | (rw [if_neg (by decide +kernel)]; exact ⟨rfl, rfl⟩))
    (fun os started H enc _ => zei os started H enc)
end Go.Proofs.Ytniafckaafcpbaa
#print axioms Go.Proofs.Ytniafckaafcpbaa.autoFair_holds
