/- The plain law: both plans are one. The sort. -/
import Derived.Test.YtgiempmfpmlgnaaGreatN
namespace Go.Proofs.YtgiempmfpmlgnaaGreat
open Go.Pk
set_option linter.unusedSimpArgs false
set_option linter.unusedVariables false
abbrev Srt (l : List Prom) : Prop := l.Pairwise fun p q => p.src ≤ q.src
theorem swapP_app (pre : List Prom) (a b : Prom) (post : List Prom) : swapP (pre ++ a :: b :: post) pre.length = pre ++ b :: a :: post := by
  unfold swapP
  have h1 : (pre ++ a :: b :: post)[pre.length]? = some a := by simp
  have h2 : (pre ++ a :: b :: post)[pre.length + 1]? = some b := by simp
  rw [h1, h2]
  simp only
  rw [List.set_append_right _ _ (by omega), List.set_append_right _ _ (by omega)]
  simp
theorem inner_spec : ∀ (n : Nat) (pre post : List Prom) (x : Prom), pre.length = n → Srt pre → ∃ q, innerP (pre ++ x :: post) n = q ++ post ∧ q.Perm (pre ++ [x]) ∧ Srt q
  | 0, pre, post, x, hn, hs => by
    obtain rfl := List.eq_nil_of_length_eq_zero hn
    exact ⟨[x], rfl, List.Perm.refl _, by simp [Srt]⟩
  | n + 1, pre, post, x, hn, hs => by
    obtain ⟨pre', a, rfl⟩ : ∃ pre' a, pre = pre' ++ [a] := ⟨pre.dropLast, pre.getLast (by intro h; subst h; simp at hn), (List.dropLast_concat_getLast _).symm⟩
    have hn' : pre'.length = n := by simpa using hn
    subst hn'
    have hs' := List.pairwise_append.1 hs
    have e : pre' ++ [a] ++ x :: post = pre' ++ a :: x :: post := by simp
    have h1 : (pre' ++ a :: x :: post)[pre'.length + 1]? = some x := by simp
    have h2 : (pre' ++ a :: x :: post)[pre'.length]? = some a := by simp
    rw [e, innerP, h1, h2]
    simp only
    split
    · rename_i hlt
      rw [swapP_app]
      obtain ⟨q, g1, g2, g3⟩ := inner_spec pre'.length pre' (a :: post) x rfl hs'.1
      refine ⟨q ++ [a], by rw [g1]; simp, ?_, ?_⟩
      · have : (q ++ [a]).Perm ((pre' ++ [x]) ++ [a]) := g2.append_right _
        refine this.trans ?_
        simp only [List.append_assoc]
        exact List.Perm.append_left _ (List.Perm.swap a x [])
      · refine List.pairwise_append.2 ⟨g3, by simp, fun p hp r hr => ?_⟩
        rw [List.mem_singleton.1 hr]
        rcases List.mem_append.1 (g2.mem_iff.1 hp) with h | h
        · exact hs'.2.2 p h a (by simp)
        · rw [List.mem_singleton.1 h]
          omega
    · rename_i hge
      refine ⟨pre' ++ [a, x], by simp, by simp, ?_⟩
      rw [show pre' ++ [a, x] = pre' ++ [a] ++ [x] by simp]
      refine List.pairwise_append.2 ⟨hs, by simp, fun p hp r hr => ?_⟩
      rw [List.mem_singleton.1 hr]
      rcases List.mem_append.1 hp with h | h
      · have := hs'.2.2 p h a (by simp)
        omega
      · rw [List.mem_singleton.1 h]
        omega
theorem outer_spec : ∀ (k : Nat) (pre post : List Prom), post.length = k → Srt pre → (outerP (pre ++ post) pre.length k).Perm (pre ++ post) ∧ Srt (outerP (pre ++ post) pre.length k)
  | 0, pre, post, hk, hs => by
    obtain rfl := List.eq_nil_of_length_eq_zero hk
    simp only [List.append_nil]
    exact ⟨List.Perm.refl _, hs⟩
  | k + 1, pre, post, hk, hs => by
    obtain ⟨x, post', rfl⟩ : ∃ x p', post = x :: p' := by
      cases post with
      | nil => simp at hk
      | cons a b => exact ⟨a, b, rfl⟩
    rw [outerP]
    obtain ⟨q, g1, g2, g3⟩ := inner_spec pre.length pre post' x rfl hs
    have hq : q.length = pre.length + 1 := by rw [g2.length_eq]; simp
    rw [g1, ← hq]
    obtain ⟨f1, f2⟩ := outer_spec k q post' (by simpa using hk) g3
    refine ⟨f1.trans ?_, f2⟩
    have := g2.append_right post'
    simpa using this
theorem sortedP_spec (l : List Prom) : (sortedP l).Perm l ∧ Srt (sortedP l) := by
  unfold sortedP
  cases l with
  | nil => exact ⟨List.Perm.refl _, List.Pairwise.nil⟩
  | cons a l =>
    have := outer_spec l.length [a] l rfl (by simp [Srt])
    simpa using this
end Go.Proofs.YtgiempmfpmlgnaaGreat

