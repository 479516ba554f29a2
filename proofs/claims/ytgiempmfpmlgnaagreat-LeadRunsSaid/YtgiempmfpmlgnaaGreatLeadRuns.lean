/- LeadRuns: whatever the input, the call returns true, and the input reads as it did. No condition. -/
import Derived.Test.YtgiempmfpmlgnaaGreatRows
import Derived.Test.YtgiempmfpmlgnaaGreatRE
import Derived.Test.YtgiempmfpmlgnaaGreatLJK
namespace Go.Proofs.YtgiempmfpmlgnaaGreat
open Go.Pk Go.ChangeShapes Go.WideShapes Go.RowKit
set_option maxRecDepth 100000
theorem leadRuns_sh : shAll Tryz.prog 40 Tryz.f3.params.toList = some [.int .i64, .slice 96 shAct, .slice 48 shReq] := by kernel_rfl
theorem leadRuns_read : ∀ t ∈ Tryz.f3.params.toList, Tryz.prog.readableRec t = true ∧ t < Tryz.prog.types.size := by
  have h : (Tryz.f3.params.toList.all fun t => Tryz.prog.readableRec t && decide (t < Tryz.prog.types.size)) = true := by kernel_rfl
  intro t ht
  have := List.all_eq_true.1 h t ht
  simpa using this
theorem leadRuns_ok : ∀ dss, ShAll [.int .i64, .slice 96 shAct, .slice 48 shReq] dss → CallOK Tryz.prog 3 (argsOf [.int .i64, .slice 96 shAct, .slice 48 shReq] dss) (fun r o => r = [.one (.d (.v (.bool true)))] ∧ o = []) := by
  intro dss h
  obtain ⟨d0, dss, rfl, h0, h⟩ := shAll_cons h
  obtain ⟨d1, dss, rfl, h1, h⟩ := shAll_cons h
  obtain ⟨d2, dss, rfl, h2, h⟩ := shAll_cons h
  obtain rfl := shAll_nil h
  obtain ⟨x0, rfl, k0⟩ := int_of _ h0
  obtain ⟨x1, rfl, k1, m1⟩ := acts_of _ h1
  obtain ⟨x2, rfl, k2, m2⟩ := reqs_of _ h2
  have := leadRuns_of x0 x1 x2 k1 m1 k2 m2
  exact CallOK.le this (by simp [argsOf, argOf, argsLe, aLe, csLe, cLe])
theorem leadRuns_own : ownKnob Tryz.prog.godebug = none := by kernel_rfl
theorem leadRuns_laid : laidOutB Tryz.prog = true := by kernel_rfl
theorem leadRuns_fn {H : Type} : ∀ (ds : List (DataW H)), ds.length = Tryz.f3.params.size → (Rows.leadRunsSpec.fn H ds).results = [.lit (.bool true)] ∧ (Rows.leadRunsSpec.fn H ds).args = ds ∧ (Rows.leadRunsSpec.fn H ds).vars = []
  | [d0, d1, d2], _ => ⟨rfl, rfl, rfl⟩
  | [], h => absurd h (by have e : Tryz.f3.params.size = 3 := rfl; rw [e]; simp)
  | [d0], h => absurd h (by have e : Tryz.f3.params.size = 3 := rfl; rw [e]; simp)
  | [d0, d1], h => absurd h (by have e : Tryz.f3.params.size = 3 := rfl; rw [e]; simp)
  | _ :: _ :: _ :: _ :: _, h => absurd h (by have e : Tryz.f3.params.size = 3 := rfl; rw [e]; simp)
theorem leadRuns_lifted (os : Os) (started : os.Started) (H : Type) (enc : TypeId × Value → H) :
    ReturnsInHanded {} Tryz.checked os 3 .any (Rows.leadRunsSpec.pre6 enc Tryz.prog Tryz.f3 Rows.leadRunsRow.domain false) (Rows.leadRunsSpec.post enc Tryz.prog Tryz.f3 false true false false) := by
  refine returnsInHanded_of_change_sized (C := Tryz.checked) leadRuns_own started (by kernel_rfl) Tryz.func3
    (ChangeSpec.witness6 (enc := enc) (C := Tryz.checked) false ⟨#[], #[.int .i64 0, .slice none 0 0, .slice none 0 0], []⟩ 8 (by kernel_rfl) (by kernel_rfl) (by kernel_rfl) (by kernel_rfl)) ?_
  intro W base args ds gs before hval hW _ hsz _
  exact contract_of (P := Tryz.prog) (f := 3) (fn := Tryz.f3) (s := Rows.leadRunsSpec) (n := 40) leadRuns_sh rfl leadRuns_fn (tb := 4) (by kernel_rfl) Tryz.underlying4 leadRuns_laid leadRuns_read leadRuns_ok W base args ds gs before hval hW hsz
theorem leadRuns_holds : Rows.LeadRunsSaid :=
  OpenClaim.holds_of_wide 3 Tryz.f3 rfl rfl rfl rfl rfl rfl rfl ⟨rfl, rfl, rfl, rfl, rfl⟩ rfl rfl rfl rfl rfl (by kernel_rfl) Tryz.func3 (by kernel_rfl)
    (of_decide_eq_true (by kernel_rfl)) (by unfold Func.isWrapper; first | (rw [if_pos (by decide +kernel)]; kernel_rfl) | (rw [if_neg (by decide +kernel)]; exact ⟨rfl, rfl⟩))
    (fun os started H enc _ => leadRuns_lifted os started H enc)
end Go.Proofs.YtgiempmfpmlgnaaGreat
#print axioms Go.Proofs.YtgiempmfpmlgnaaGreat.leadRuns_holds

