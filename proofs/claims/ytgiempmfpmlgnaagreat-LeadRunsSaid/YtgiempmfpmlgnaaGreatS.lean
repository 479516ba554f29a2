/- PlanRaw: what comes in is typed. -/
import Derived.Test.YtgiempmfpmlgnaaGreatTy
import Derived.Test.YtgiempmfpmlgnaaGreatR
import Derived.JoinedOf
import Derived.Handed
import Derived.ProofKit
namespace Go.Proofs.YtgiempmfpmlgnaaGreat
open Go.Pk
set_option linter.unusedSimpArgs false
set_option linter.unusedVariables false
theorem few_step {done : Int} {b : List Vote} {v : Vote} (h : few b) (hv : v.batch.reqs.length ≤ 3) : few (stepV done b v) := by
  unfold stepV
  split
  · exact h
  · have hg : ∀ (k : Nat) (b : List Vote), few b → few (growV b k) := fun k => by
      induction k with
      | zero => intro b h; exact h
      | succ k ih => intro b h; exact ih _ (few_app h)
    unfold layV
    split
    · split
      · exact few_set (hg _ _ h) hv
      · exact hg _ _ h
    · exact hg _ _ h
theorem few_best {done : Int} : ∀ {l : List Prom} {b : List Vote}, few b → (∀ p ∈ l, ∀ v ∈ p.votes, v.batch.reqs.length ≤ 3) → few (bestOf done b l)
  | [], b, h, _ => h
  | p :: l, b, h, hv => by
    have h1 : ∀ (vs : List Vote) (b : List Vote), few b → (∀ v ∈ vs, v.batch.reqs.length ≤ 3) → few (vs.foldl (stepV done) b) := fun vs => by
      induction vs with
      | nil => intro b hb _; exact hb
      | cons v vs ih => intro b hb hvs; exact ih _ (few_step hb (hvs v (by simp))) fun w hw => hvs w (by simp [hw])
    exact few_best (l := l) (h1 p.votes b h (hv p (by simp))) fun q hq => hv q (by simp [hq])
theorem planP_small {s : List Prom} (hm : ∀ p ∈ s, MayP p) : (planP s).batches.length ≤ 9 ∧ ∀ b ∈ (planP s).batches, b.reqs.length ≤ 3 := by
  cases s with
  | nil => exact ⟨Nat.zero_le _, fun b hb => by cases hb⟩
  | cons p l =>
    have hmax := baseP_max (l := l) (b := (p.done, p.tip, p.time))
    have hvs : ∀ q ∈ p :: l, ∀ v ∈ q.votes, v.slot ≤ (baseP (p.done, p.tip, p.time) l).1 + 9 := fun q hq v hv => by
      have h1 := ((hm q hq).votes v hv).2.1
      have h2 : q.done ≤ (baseP (p.done, p.tip, p.time) l).1 := by
        rcases List.mem_cons.1 hq with rfl | hq
        · exact hmax.1
        · exact hmax.2 q hq
      omega
    have hfew := few_best (done := (baseP (p.done, p.tip, p.time) l).1) (l := p :: l) (b := []) (fun w hw => by cases hw) fun q hq v hv => batchMay_few ((hm q hq).votes v hv).2.2.2.2
    have hlen := bestOf_len (done := (baseP (p.done, p.tip, p.time) l).1) (best := []) (l := p :: l) (by simp) hvs
    refine ⟨?_, fun b hb => ?_⟩
    · show ((bestOf _ [] (p :: l)).map Vote.batch).length ≤ 9
      rw [List.length_map]
      exact hlen
    · have hb : b ∈ (bestOf (baseP (p.done, p.tip, p.time) l).1 [] (p :: l)).map Vote.batch := hb
      obtain ⟨w, hw, rfl⟩ := List.mem_map.1 hb
      exact hfew w hw
/-! ### Shapes -/
abbrev shReq : Sh := .struct [.int .i64, .int .i64, .struct [.int .i64, .int .i64, .str]]
abbrev shBatch : Sh := .struct [.bool, .int .i64, .struct [.int .i64, .int .i64], .int .i64, .slice 48 shReq]
abbrev shVote : Sh := .struct [.int .i64, .int .i64, shBatch]
abbrev shPromise : Sh := .struct [.int .i64, .int .i64, .struct [.int .i64, .int .i64], .int .i64, .slice 80 shVote]
theorem i64_of {n : Int} (h : (Lit.int .i64 n).wf = true) : i64 n := by
  have h2 : (decide (IntKind.i64.min ≤ n) && decide (n ≤ IntKind.i64.max)) = true := h
  have e1 : IntKind.i64.min = -9223372036854775808 := by decide
  have e2 : IntKind.i64.max = 9223372036854775807 := by decide
  rw [e1, e2] at h2
  simp only [Bool.and_eq_true, decide_eq_true_eq] at h2
  unfold i64
  omega
theorem list_of {α : Type} {enc : α → List D} {ok : α → Prop} {s : Sh} (h : ∀ ds, ShD s ds → ∃ x, ds = enc x ∧ ok x) : ∀ xs : List (List D), (∀ x ∈ xs, ShD s x) → ∃ l : List α, l.length = xs.length ∧ xs.flatten = l.flatMap enc ∧ ∀ x ∈ l, ok x
  | [], _ => ⟨[], rfl, rfl, fun x hx => by cases hx⟩
  | x :: xs, hx => by
    obtain ⟨a, ha1, ha2⟩ := h x (hx x (by simp))
    obtain ⟨l, h1, h2, h3⟩ := list_of h xs fun y hy => hx y (by simp [hy])
    refine ⟨a :: l, by simp [h1], ?_, fun y hy => ?_⟩
    · rw [List.flatten_cons, List.flatMap_cons, h2, ha1]
    · rcases List.mem_cons.1 hy with rfl | hy
      · exact ha2
      · exact h3 y hy
theorem req_of (ds : List D) (h : ShD shReq ds) : ∃ r : Req, ds = r.enc ∧ r.ok := by
  simp only [ShD, ShDs] at h
  obtain ⟨_, _, rfl, ⟨c, rfl, hc⟩, _, _, rfl, ⟨q, rfl, hq⟩, _, _, rfl, ⟨_, _, rfl, ⟨k, rfl, hk⟩, _, _, rfl, ⟨n, rfl, hn⟩, _, _, rfl, ⟨s, rfl, hs⟩, rfl⟩, rfl⟩ := h
  exact ⟨⟨c, q, k, n, s⟩, rfl, i64_of hc, i64_of hq, i64_of hk, i64_of hn, Nat.lt_of_le_of_lt hs (by decide)⟩
end Go.Proofs.YtgiempmfpmlgnaaGreat

