/- PlanMade: what comes in is typed. -/
import Derived.Test.YtgiempmfpmlgnaaGreatX
namespace Go.Proofs.YtgiempmfpmlgnaaGreat
open Go.Pk
set_option linter.unusedSimpArgs false
set_option linter.unusedVariables false
abbrev shNs : Sh := .slice 1 (.int .u8)
abbrev shNVote : Sh := .struct [.int .u8, .int .u8, shNs]
abbrev shNTold : Sh := .struct [.int .u8, .int .u8, .int .u8, .int .u8, .slice 32 shNVote]
theorem u8_of {n : Int} (h : (Lit.int .u8 n).wf = true) : u8 n := by
  have h2 : (decide (IntKind.u8.min ≤ n) && decide (n ≤ IntKind.u8.max)) = true := h
  have e1 : IntKind.u8.min = 0 := by decide
  have e2 : IntKind.u8.max = 255 := by decide
  rw [e1, e2] at h2
  simp only [Bool.and_eq_true, decide_eq_true_eq] at h2
  unfold u8
  omega
theorem reach60 : reachBytes < 2 ^ 60 := by decide
theorem byte_of (ds : List D) (h : ShD (.int .u8) ds) : ∃ x : Int, ds = [uD x] ∧ u8 x := by
  simp only [ShD] at h
  obtain ⟨n, rfl, hn⟩ := h
  exact ⟨n, rfl, u8_of hn⟩
theorem ns_of (ds : List D) (h : ShD shNs ds) : ∃ l : List Int, ds = [.sl l.length (bytesE l)] ∧ l.length < 2 ^ 60 ∧ ∀ x ∈ l, u8 x := by
  rw [ShD] at h
  obtain ⟨xs, rfl, hx1, hx2⟩ := h
  obtain ⟨l, l1, l2, l3⟩ := list_of byte_of xs hx2
  have := reach60
  refine ⟨l, ?_, by omega, l3⟩
  rw [← l1, l2]
  have : ∀ l : List Int, (l.flatMap fun x => [uD x]) = bytesE l := fun l => by
    induction l with
    | nil => rfl
    | cons x l ih => rw [List.flatMap_cons, ih]; rfl
  rw [this]
theorem nvote_of (ds : List D) (h : ShD shNVote ds) : ∃ v : NVote, ds = v.enc ∧ v.ok := by
  rw [ShD] at h
  simp only [ShDs] at h
  obtain ⟨_, _, rfl, h1, _, _, rfl, h2, _, _, rfl, h3, rfl⟩ := h
  obtain ⟨a, rfl, ha⟩ := byte_of _ h1
  obtain ⟨b, rfl, hb⟩ := byte_of _ h2
  obtain ⟨l, rfl, l1, l2⟩ := ns_of _ h3
  exact ⟨⟨a, b, l⟩, rfl, ha, hb, l1, l2⟩
theorem ntold_of (ds : List D) (h : ShD shNTold ds) : ∃ v : NTold, ds = v.enc ∧ v.ok := by
  rw [ShD] at h
  simp only [ShDs] at h
  obtain ⟨_, _, rfl, h1, _, _, rfl, h2, _, _, rfl, h3, _, _, rfl, h4, _, _, rfl, h5, rfl⟩ := h
  obtain ⟨a, rfl, ha⟩ := byte_of _ h1
  obtain ⟨b, rfl, hb⟩ := byte_of _ h2
  obtain ⟨c, rfl, hc⟩ := byte_of _ h3
  obtain ⟨d, rfl, hd⟩ := byte_of _ h4
  rw [ShD] at h5
  obtain ⟨xs, rfl, hx1, hx2⟩ := h5
  obtain ⟨l, l1, l2, l3⟩ := list_of nvote_of xs hx2
  have := reach60
  refine ⟨⟨a, b, c, d, l⟩, ?_, ha, hb, hc, hd, by simp only; omega, l3⟩
  rw [← l1, l2]
  rfl
end Go.Proofs.YtgiempmfpmlgnaaGreat

