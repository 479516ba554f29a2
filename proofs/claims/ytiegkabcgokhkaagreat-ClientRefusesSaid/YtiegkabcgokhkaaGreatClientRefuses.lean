/- ClientRefuses: whatever the input, the call returns true, and the input reads as it did. No condition. -/
import Derived.Test.YtiegkabcgokhkaaGreatRows
import Derived.Test.YtiegkabcgokhkaaGreatJ
import Derived.Test.YtiegkabcgokhkaaGreatTY
namespace Go.Proofs.YtiegkabcgokhkaaGreat
open Go.Pk Go.ChangeShapes Go.WideShapes Go.RowKit
set_option maxRecDepth 100000
set_option linter.unusedSimpArgs false
theorem clientRefuses_sh : shAll Tryz.prog 40 Tryz.f8.params.toList = some [.int .i64, .str, .int .i64, .int .u8] := by kernel_rfl
theorem clientRefuses_read : ∀ t ∈ Tryz.f8.params.toList, Tryz.prog.readableRec t = true ∧ t < Tryz.prog.types.size := by
  have h : (Tryz.f8.params.toList.all fun t => Tryz.prog.readableRec t && decide (t < Tryz.prog.types.size)) = true := by kernel_rfl
  intro t ht
  have := List.all_eq_true.1 h t ht
  simpa using this
theorem clientRefuses_ok : ∀ dss, ShAll [.int .i64, .str, .int .i64, .int .u8] dss → CallOK Tryz.prog 8 (argsOf [.int .i64, .str, .int .i64, .int .u8] dss) (fun r o => r = [.one (.d (.v (.bool true)))] ∧ o = []) := by
  intro dss h
  obtain ⟨d0, dss, rfl, h0, h⟩ := shAll_cons h
  obtain ⟨d1, dss, rfl, h1, h⟩ := shAll_cons h
  obtain ⟨d2, dss, rfl, h2, h⟩ := shAll_cons h
  obtain ⟨d3, dss, rfl, h3, h⟩ := shAll_cons h
  obtain rfl := shAll_nil h
  obtain ⟨x0, rfl, k0⟩ := int_of _ h0
  obtain ⟨x1, rfl, k1⟩ := str_of _ h1
  obtain ⟨x2, rfl, k2⟩ := int_of _ h2
  obtain ⟨x3, rfl, k3⟩ := byte_of _ h3
  have := clientRefuses_of x0 x1 x2 x3 k1 k2 k3
  exact CallOK.le this (by simp [argsOf, argOf, argsLe, aLe, csLe, cLe])
theorem clientRefuses_own : ownKnob Tryz.prog.godebug = none := by kernel_rfl
theorem clientRefuses_laid : laidOutB Tryz.prog = true := by kernel_rfl
theorem clientRefuses_fn {H : Type} : ∀ (ds : List (DataW H)), ds.length = Tryz.f8.params.size → (Rows.clientRefusesSpec.fn H ds).results = [.lit (.bool true)] ∧ (Rows.clientRefusesSpec.fn H ds).args = ds ∧ (Rows.clientRefusesSpec.fn H ds).vars = []
  | [d0, d1, d2, d3], _ => ⟨rfl, rfl, rfl⟩
  | [], h => absurd h (by have e : Tryz.f8.params.size = 4 := rfl; rw [e]; simp)
  | [d0], h => absurd h (by have e : Tryz.f8.params.size = 4 := rfl; rw [e]; simp)
  | [d0, d1], h => absurd h (by have e : Tryz.f8.params.size = 4 := rfl; rw [e]; simp)
  | [d0, d1, d2], h => absurd h (by have e : Tryz.f8.params.size = 4 := rfl; rw [e]; simp)
  | _ :: _ :: _ :: _ :: _ :: _, h => absurd h (by have e : Tryz.f8.params.size = 4 := rfl; rw [e]; simp)
theorem clientRefuses_lifted (os : Os) (started : os.Started) (H : Type) (enc : TypeId × Value → H) :
    ReturnsInHanded {} Tryz.checked os 8 .any (Rows.clientRefusesSpec.pre6 enc Tryz.prog Tryz.f8 Rows.clientRefusesRow.domain false) (Rows.clientRefusesSpec.post enc Tryz.prog Tryz.f8 false true false false) := by
  refine returnsInHanded_of_change_sized (C := Tryz.checked) clientRefuses_own started (by kernel_rfl) Tryz.func8
    (ChangeSpec.witness6 (enc := enc) (C := Tryz.checked) false ⟨#[], #[.int .i64 0, .string .empty, .int .i64 0, .int .u8 0], []⟩ 8 (by kernel_rfl) (by kernel_rfl) (by kernel_rfl) (by kernel_rfl)) ?_
  intro W base args ds gs before hval hW _ hsz _
  exact contract_of (P := Tryz.prog) (f := 8) (fn := Tryz.f8) (s := Rows.clientRefusesSpec) (n := 40) clientRefuses_sh rfl clientRefuses_fn (tb := 4) (by kernel_rfl) Tryz.underlying4 clientRefuses_laid clientRefuses_read clientRefuses_ok W base args ds gs before hval hW hsz
theorem clientRefuses_holds : Rows.ClientRefusesSaid :=
  OpenClaim.holds_of_wide 8 Tryz.f8 rfl rfl rfl rfl rfl rfl rfl ⟨rfl, rfl, rfl, rfl, rfl⟩ rfl rfl rfl rfl rfl (by kernel_rfl) Tryz.func8 (by kernel_rfl)
    (of_decide_eq_true (by kernel_rfl)) (by unfold Func.isWrapper; first | (rw [if_pos (by decide +kernel)]; kernel_rfl) | (rw [if_neg (by decide +kernel)]; exact ⟨rfl, rfl⟩))
    (fun os started H enc _ => clientRefuses_lifted os started H enc)
end Go.Proofs.YtiegkabcgokhkaaGreat
#print axioms Go.Proofs.YtiegkabcgokhkaaGreat.clientRefuses_holds

