/- What comes in is typed: numbers, bytes, texts. -/
import Derived.Test.YtiegkabcgokhkaaGreatOE
import Derived.Test.YtiegkabcgokhkaaGreatK7
import Derived.JoinedOf
import Derived.Handed
import Derived.ProofKit
namespace Go.Proofs.YtiegkabcgokhkaaGreat
open Go.Pk
set_option linter.unusedSimpArgs false
set_option linter.unusedVariables false
theorem i64_of {n : Int} (h : (Lit.int .i64 n).wf = true) : i64 n := by
  have h2 : (decide (IntKind.i64.min ≤ n) && decide (n ≤ IntKind.i64.max)) = true := h
  have e1 : IntKind.i64.min = -9223372036854775808 := by decide
  have e2 : IntKind.i64.max = 9223372036854775807 := by decide
  rw [e1, e2] at h2
  simp only [Bool.and_eq_true, decide_eq_true_eq] at h2
  unfold i64
  omega
theorem u8_of {n : Int} (h : (Lit.int .u8 n).wf = true) : byteI n := by
  have h2 : (decide (IntKind.u8.min ≤ n) && decide (n ≤ IntKind.u8.max)) = true := h
  have e1 : IntKind.u8.min = 0 := by decide
  have e2 : IntKind.u8.max = 255 := by decide
  rw [e1, e2] at h2
  simp only [Bool.and_eq_true, decide_eq_true_eq] at h2
  unfold byteI
  omega
theorem reach60 : reachBytes < 2 ^ 60 := by decide
theorem byte_of (ds : List D) (h : ShD (.int .u8) ds) : ∃ x : Int, ds = [uD x] ∧ byteI x := by
  simp only [ShD] at h
  obtain ⟨n, rfl, hn⟩ := h
  exact ⟨n, rfl, u8_of hn⟩
theorem int_of (ds : List D) (h : ShD (.int .i64) ds) : ∃ x : Int, ds = [iD x] ∧ i64 x := by
  simp only [ShD] at h
  obtain ⟨n, rfl, hn⟩ := h
  exact ⟨n, rfl, i64_of hn⟩
theorem str_of (ds : List D) (h : ShD .str ds) : ∃ x : ByteArray, ds = [sD x] ∧ x.size < 2 ^ 60 := by
  simp only [ShD] at h
  obtain ⟨n, rfl, hn⟩ := h
  have := reach60
  exact ⟨n, rfl, by omega⟩
end Go.Proofs.YtiegkabcgokhkaaGreat

