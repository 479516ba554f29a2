/- What comes in is typed: numbers, lists of lists. -/
import Derived.Test.YtgiempmfpmlgnaaY
namespace Go.Proofs.Ytgiempmfpmlgnaa
open Go.Pk
set_option linter.unusedSimpArgs false
set_option linter.unusedVariables false
theorem int_of (ds : List D) (h : ShD (.int .i64) ds) : ∃ x : Int, ds = [iD x] ∧ i64 x := by
  simp only [ShD] at h
  obtain ⟨n, rfl, hn⟩ := h
  exact ⟨n, rfl, i64_of hn⟩
abbrev nssE (l : List (List Int)) : List D := l.flatMap fun ns => [.sl ns.length (bytesE ns)]
theorem nss_at {l : List (List Int)} {i : Nat} (hi : i < l.length) : (nssE l).drop (i * 1) = [.sl l[i].length (bytesE l[i])] ++ (nssE (l.drop (i + 1))) := drop_enc _ 1 l i hi fun _ => rfl
theorem nss_len {l : List (List Int)} : (nssE l).length = l.length * 1 := len_enc _ 1 (fun _ => rfl) l
theorem nss_of (ds : List D) (h : ShD (.slice 24 (.slice 1 (.int .u8))) ds) : ∃ l : List (List Int), ds = [.sl l.length (nssE l)] ∧ l.length < 2 ^ 60 ∧ ∀ x ∈ l, x.length < 2 ^ 60 ∧ ∀ y ∈ x, u8 y := by
  rw [ShD] at h
  obtain ⟨xs, rfl, hx1, hx2⟩ := h
  obtain ⟨l, l1, l2, l3⟩ := list_of (enc := fun ns : List Int => [D.sl ns.length (bytesE ns)]) (ok := fun x => x.length < 2 ^ 60 ∧ ∀ y ∈ x, u8 y) (fun ds h => by
    obtain ⟨l, h1, h2, h3⟩ := ns_of ds h
    exact ⟨l, h1, h2, h3⟩) xs hx2
  have := reach60
  exact ⟨l, by rw [← l1, l2], by omega, l3⟩
end Go.Proofs.Ytgiempmfpmlgnaa

