/- What comes in is typed: numbers, lists of lists. -/
import Derived.Test.YtgiempmfpmlgnaaGreatY
namespace Go.Proofs.YtgiempmfpmlgnaaGreat
open Go.Pk
set_option linter.unusedSimpArgs false
set_option linter.unusedVariables false
theorem int_of (ds : List D) (h : ShD (.int .i64) ds) : ∃ x : Int, ds = [iD x] ∧ i64 x := by
  simp only [ShD] at h
  obtain ⟨n, rfl, hn⟩ := h
  exact ⟨n, rfl, i64_of hn⟩
abbrev nssE (l : List (List Int)) : List D := l.flatMap fun ns => [.sl ns.length (bytesE ns)]
end Go.Proofs.YtgiempmfpmlgnaaGreat

