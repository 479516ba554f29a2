import Derived.Test.YtiegkabcgokhkaaGreatOE
import Derived.Test.YtiegkabcgokhkaaGreatK8
import Derived.JoinedOf
import Derived.Handed
import Derived.ProofKit
namespace Go.Proofs.YtiegkabcgokhkaaGreat
open Go.Pk
set_option linter.unusedSimpArgs false
set_option linter.unusedVariables false
theorem znI {n : Int} (h : (Lit.int .u8 n).wf = true) : byteI n := by
 have h2 : (decide (IntKind.u8.min ≤ n) && decide (n ≤ IntKind.u8.max)) = true := h
 have e1 : IntKind.u8.min = 0 := by decide
 have e2 : IntKind.u8.max = 255 := by decide
 rw [e1, e2] at h2
 simp only [Bool.and_eq_true, decide_eq_true_eq] at h2
 unfold byteI
 omega
theorem byte_of (ds : List D) (h : ShD (.int .u8) ds) : ∃ x : Int, ds = [uD x] ∧ byteI x := by
 simp only [ShD] at h
 obtain ⟨n, rfl, hn⟩ := h
 exact ⟨n, rfl, znI hn⟩
theorem zma (ds : List D) (h : ShD .bool ds) : ∃ x : Bool, ds = [bD x] := by
 simp only [ShD] at h
 exact h
end Go.Proofs.YtiegkabcgokhkaaGreat
