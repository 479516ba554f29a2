import Derived.Test.YtiegkabcgokhkaaGreatRows
import Derived.Test.YtiegkabcgokhkaaGreatSF
import Derived.Test.YtiegkabcgokhkaaGreatTY
namespace Go.Proofs.YtiegkabcgokhkaaGreat
open Go.Pk Go.ChangeShapes Go.WideShapes Go.RowKit
set_option maxRecDepth 100000
set_option linter.unusedSimpArgs false
theorem zfS : shAll Tryz.prog 40 Tryz.f5.params.toList = some [.int .u8, .int .u8, .bool] := by kernel_rfl
theorem zet : ∀ t ∈ Tryz.f5.params.toList, Tryz.prog.readableRec t = true ∧ t < Tryz.prog.types.size := by
 have h : (Tryz.f5.params.toList.all fun t => Tryz.prog.readableRec t && decide (t < Tryz.prog.types.size)) = true := by kernel_rfl
 intro t ht
 have := List.all_eq_true.1 h t ht
 simpa using this
theorem zfT : ∀ dss, ShAll [.int .u8, .int .u8, .bool] dss → CallOK Tryz.prog 5 (argsOf [.int .u8, .int .u8, .bool] dss) (fun r o => r = [.one (.d (.v (.bool true)))] ∧ o = []) := by
 intro dss h
 obtain ⟨d0, dss, rfl, h0, h⟩ := zdS h
 obtain ⟨d1, dss, rfl, h1, h⟩ := zdS h
 obtain ⟨d2, dss, rfl, h2, h⟩ := zdS h
 obtain rfl := zi8 h
 obtain ⟨x0, rfl, k0⟩ := byte_of _ h0
 obtain ⟨x1, rfl, k1⟩ := byte_of _ h1
 obtain ⟨x2, rfl⟩ := zma _ h2
 have := zgl x0 x1 x2 k0 k1
 exact CallOK.le this (by simp [argsOf, argOf, argsLe, aLe, csLe, cLe])
theorem ze0 : ownKnob Tryz.prog.godebug = none := by kernel_rfl
theorem zeu : laidOutB Tryz.prog = true := by kernel_rfl
theorem zfU {H : Type} : ∀ (ds : List (DataW H)), ds.length = Tryz.f5.params.size → (Rows.clientLetsSpec.fn H ds).results = [.lit (.bool true)] ∧ (Rows.clientLetsSpec.fn H ds).args = ds ∧ (Rows.clientLetsSpec.fn H ds).vars = []
 | [d0, d1, d2], _ => ⟨rfl, rfl, rfl⟩
 | [], h => absurd h (by have e : Tryz.f5.params.size = 3 := rfl; rw [e]; simp)
 | [d0], h => absurd h (by have e : Tryz.f5.params.size = 3 := rfl; rw [e]; simp)
 | [d0, d1], h => absurd h (by have e : Tryz.f5.params.size = 3 := rfl; rw [e]; simp)
 | _ :: _ :: _ :: _ :: _, h => absurd h (by have e : Tryz.f5.params.size = 3 := rfl; rw [e]; simp)
theorem zdR (os : Os) (started : os.Started) (H : Type) (enc : TypeId × Value → H) :
  ReturnsInHanded {} Tryz.checked os 5 .any (Rows.clientLetsSpec.pre6 enc Tryz.prog Tryz.f5 Rows.clientLetsRow.domain false) (Rows.clientLetsSpec.post enc Tryz.prog Tryz.f5 false true false false) := by
 refine returnsInHanded_of_change_sized (C := Tryz.checked) ze0 started (by kernel_rfl) Tryz.func5
  (ChangeSpec.witness6 (enc := enc) (C := Tryz.checked) false ⟨#[], #[.int .u8 0, .int .u8 0, .bool false], []⟩ 8 (by kernel_rfl) (by kernel_rfl) (by kernel_rfl) (by kernel_rfl)) ?_
 intro W base args ds gs before hval hW _ hsz _
 exact zhl (P := Tryz.prog) (f := 5) (fn := Tryz.f5) (s := Rows.clientLetsSpec) (n := 40) zfS rfl zfU (tb := 4) (by kernel_rfl) Tryz.underlying4 zeu zet zfT W base args ds gs before hval hW hsz
theorem clientLets_holds : Rows.ClientLetsSaid :=
 OpenClaim.holds_of_wide 5 Tryz.f5 rfl rfl rfl rfl rfl rfl rfl ⟨rfl, rfl, rfl, rfl, rfl⟩ rfl rfl rfl rfl rfl (by kernel_rfl) Tryz.func5 (by kernel_rfl)
  (of_decide_eq_true (by kernel_rfl)) (by unfold Func.isWrapper; first | (rw [if_pos (by decide +kernel)]; kernel_rfl) | (rw [if_neg (by decide +kernel)]; exact ⟨rfl, rfl⟩))
  (fun os started H enc _ => zdR os started H enc)
end Go.Proofs.YtiegkabcgokhkaaGreat
#print axioms Go.Proofs.YtiegkabcgokhkaaGreat.clientLets_holds
