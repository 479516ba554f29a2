/- LeadRuns: what comes in is typed. -/
import Derived.Test.YtgiempmfpmlgnaaGreatRD
import Derived.Test.YtgiempmfpmlgnaaGreatLJK
namespace Go.Proofs.YtgiempmfpmlgnaaGreat
open Go.Pk
set_option linter.unusedSimpArgs false
set_option linter.unusedVariables false
abbrev shAct : Sh := .struct [.int .i64, .int .i64, .int .i64, .int .i64, .int .u8, shNTold, .slice 1 (.int .u8)]
theorem act_of (ds : List D) (h : ShD shAct ds) : ∃ a : ActP, ds = a.enc ∧ a.ok := by
  rw [ShD] at h
  simp only [ShDs] at h
  obtain ⟨_, _, rfl, h1, _, _, rfl, h2, _, _, rfl, h3, _, _, rfl, h4, _, _, rfl, h5, _, _, rfl, h6, _, _, rfl, h7, rfl⟩ := h
  obtain ⟨a, rfl, ha⟩ := int_of _ h1
  obtain ⟨b, rfl, hb⟩ := int_of _ h2
  obtain ⟨c, rfl, hc⟩ := int_of _ h3
  obtain ⟨d, rfl, hd⟩ := int_of _ h4
  obtain ⟨e, rfl, he⟩ := byte_of _ h5
  obtain ⟨t, rfl, ht⟩ := ntold_of _ h6
  obtain ⟨l, rfl, hl, hm⟩ := ns_of _ h7
  exact ⟨⟨a, b, c, d, e, t, l⟩, rfl, ha, hb, hc, hd, he, ht, hl, hm⟩
theorem acts_of (ds : List D) (h : ShD (.slice 96 shAct) ds) : ∃ l : List ActP, ds = [.sl l.length (actsE l)] ∧ l.length < 2 ^ 60 ∧ ∀ x ∈ l, x.ok := by
  rw [ShD] at h
  obtain ⟨xs, rfl, hx1, hx2⟩ := h
  obtain ⟨l, l1, l2, l3⟩ := list_of act_of xs hx2
  have := reach60
  exact ⟨l, by rw [← l1, l2], by omega, l3⟩
theorem reqs_of (ds : List D) (h : ShD (.slice 48 shReq) ds) : ∃ l : List Req, ds = [.sl l.length (reqsE l)] ∧ l.length < 2 ^ 60 ∧ ∀ x ∈ l, x.ok := by
  rw [ShD] at h
  obtain ⟨xs, rfl, hx1, hx2⟩ := h
  obtain ⟨l, l1, l2, l3⟩ := list_of req_of xs hx2
  have := reach60
  exact ⟨l, by rw [← l1, l2], by omega, l3⟩
end Go.Proofs.YtgiempmfpmlgnaaGreat

