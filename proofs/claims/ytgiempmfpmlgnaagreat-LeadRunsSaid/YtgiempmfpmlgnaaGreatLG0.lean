/- LeadStops. -/
import Derived.Test.YtgiempmfpmlgnaaGreatLF
namespace Go.Proofs.YtgiempmfpmlgnaaGreat
open Go.Pk
set_option maxRecDepth 100000
set_option linter.unusedSimpArgs false
set_option linter.unusedVariables false
theorem voteOf_len {v f : Int} : ∀ {bs : List Batch} {i : Nat}, (voteOf v f i bs).length = bs.length
  | [], _ => rfl
  | b :: bs, i => by simp [voteOf, voteOf_len (bs := bs)]
theorem voteOf_mem {v f : Int} : ∀ {bs : List Batch} {i : Nat} {w : Vote}, w ∈ voteOf v f i bs → ∃ j, i ≤ j ∧ j < i + bs.length ∧ w.slot = f + j ∧ w.ballot = v ∧ w.batch ∈ bs
  | [], _, _, h => by simp [voteOf] at h
  | b :: bs, i, w, h => by
    rw [voteOf] at h
    rcases List.mem_cons.1 h with rfl | h
    · exact ⟨i, Nat.le_refl _, by simp, rfl, rfl, by simp⟩
    · obtain ⟨j, h1, h2, h3, h4, h5⟩ := voteOf_mem h
      exact ⟨j, by omega, by simp only [List.length_cons]; omega, h3, h4, List.mem_cons_of_mem _ h5⟩
end Go.Proofs.YtgiempmfpmlgnaaGreat

