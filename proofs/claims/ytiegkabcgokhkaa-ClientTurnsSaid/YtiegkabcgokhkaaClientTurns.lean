/- ClientTurns: whatever the input, the call returns true, and the input reads as it did. No condition. -/
import Derived.Test.YtiegkabcgokhkaaRows
import Derived.Test.YtiegkabcgokhkaaOI
import Derived.Test.YtiegkabcgokhkaaTY
namespace Go.Proofs.Ytiegkabcgokhkaa
open Go.Pk Go.ChangeShapes Go.WideShapes Go.RowKit
set_option maxRecDepth 100000
theorem clientTurns_sh : shAll Try.prog 40 Try.f3.params.toList = some [.slice 1 (.int .u8), .int .u8, .slice 1 (.int .u8)] := by kernel_rfl
theorem clientTurns_read : ∀ t ∈ Try.f3.params.toList, Try.prog.readableRec t = true ∧ t < Try.prog.types.size := by
  have h : (Try.f3.params.toList.all fun t => Try.prog.readableRec t && decide (t < Try.prog.types.size)) = true := by kernel_rfl
  intro t ht
  have := List.all_eq_true.1 h t ht
  simpa using this
theorem clientTurns_ok : ∀ dss, ShAll [.slice 1 (.int .u8), .int .u8, .slice 1 (.int .u8)] dss → CallOK Try.prog 3 (argsOf [.slice 1 (.int .u8), .int .u8, .slice 1 (.int .u8)] dss) (fun r o => r = [.one (.d (.v (.bool true)))] ∧ o = []) := by
  intro dss h
  obtain ⟨d0, dss, rfl, h0, h⟩ := shAll_cons h
  obtain ⟨d1, dss, rfl, h1, h⟩ := shAll_cons h
  obtain ⟨d2, dss, rfl, h2, h⟩ := shAll_cons h
  obtain rfl := shAll_nil h
  obtain ⟨x0, rfl, k0, m0⟩ := ns_of _ h0
  obtain ⟨x1, rfl, k1⟩ := byte_of _ h1
  obtain ⟨x2, rfl, k2, m2⟩ := ns_of _ h2
  have := clientTurns_of x0 x1 x2 k0 m0 k1 k2 m2
  exact CallOK.le this (by simp [argsOf, argOf, argsLe, aLe, csLe, cLe])
theorem clientTurns_own : ownKnob Try.prog.godebug = none := by kernel_rfl
theorem clientTurns_laid : laidOutB Try.prog = true := by kernel_rfl
theorem clientTurns_fn {H : Type} : ∀ (ds : List (DataW H)), ds.length = Try.f3.params.size → (Rows.clientTurnsSpec.fn H ds).results = [.lit (.bool true)] ∧ (Rows.clientTurnsSpec.fn H ds).args = ds ∧ (Rows.clientTurnsSpec.fn H ds).vars = []
  | [d0, d1, d2], _ => ⟨rfl, rfl, rfl⟩
  | [], h => absurd h (by have e : Try.f3.params.size = 3 := rfl; rw [e]; simp)
  | [d0], h => absurd h (by have e : Try.f3.params.size = 3 := rfl; rw [e]; simp)
  | [d0, d1], h => absurd h (by have e : Try.f3.params.size = 3 := rfl; rw [e]; simp)
  | _ :: _ :: _ :: _ :: _, h => absurd h (by have e : Try.f3.params.size = 3 := rfl; rw [e]; simp)
theorem clientTurns_lifted (os : Os) (started : os.Started) (H : Type) (enc : TypeId × Value → H) :
    ReturnsInHanded {} Try.checked os 3 .any (Rows.clientTurnsSpec.pre6 enc Try.prog Try.f3 Rows.clientTurnsRow.domain false) (Rows.clientTurnsSpec.post enc Try.prog Try.f3 false true false false) := by
  refine returnsInHanded_of_change_sized (C := Try.checked) clientTurns_own started (by kernel_rfl) Try.func3
    (ChangeSpec.witness6 (enc := enc) (C := Try.checked) false ⟨#[], #[.slice none 0 0, .int .u8 0, .slice none 0 0], []⟩ 8 (by kernel_rfl) (by kernel_rfl) (by kernel_rfl) (by kernel_rfl)) ?_
  intro W base args ds gs before hval hW _ hsz _
  exact contract_of (P := Try.prog) (f := 3) (fn := Try.f3) (s := Rows.clientTurnsSpec) (n := 40) clientTurns_sh rfl clientTurns_fn (tb := 4) (by kernel_rfl) Try.underlying4 clientTurns_laid clientTurns_read clientTurns_ok W base args ds gs before hval hW hsz
theorem clientTurns_holds : Rows.ClientTurnsSaid :=
  OpenClaim.holds_of_wide 3 Try.f3 rfl rfl rfl rfl rfl rfl rfl ⟨rfl, rfl, rfl, rfl, rfl⟩ rfl rfl rfl rfl rfl (by kernel_rfl) Try.func3 (by kernel_rfl)
    (of_decide_eq_true (by kernel_rfl)) (by unfold Func.isWrapper; first | (rw [if_pos (by decide +kernel)]; kernel_rfl) | (rw [if_neg (by decide +kernel)]; exact ⟨rfl, rfl⟩))
    (fun os started H enc _ => clientTurns_lifted os started H enc)
end Go.Proofs.Ytiegkabcgokhkaa
#print axioms Go.Proofs.Ytiegkabcgokhkaa.clientTurns_holds

