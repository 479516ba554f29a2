/- PlanMade: the promises that numbers make, as one list, and what is made of them. -/
import Derived.Test.YtgiempmfpmlgnaaGreatV
import Derived.Test.YtgiempmfpmlgnaaGreatS
namespace Go.Proofs.YtgiempmfpmlgnaaGreat
open Go.Pk
set_option maxRecDepth 100000
set_option linter.unusedSimpArgs false
set_option linter.unusedVariables false
theorem nameOf_size (k : Nat) : (nameOf k).size < 2 ^ 62 := by
  unfold nameOf
  split <;> decide
theorem i64_small {n : Int} (h1 : 0 ≤ n) (h2 : n < 1000) : i64 n := by unfold i64; omega
theorem cmdP_ok (a b c : Int) : i64 (cmdP a b c).1 ∧ i64 (cmdP a b c).2.1 ∧ (cmdP a b c).2.2.size < 2 ^ 62 := by
  have h6 := Nat.mod_lt a.toNat (show 0 < 6 by decide)
  have h7 := Nat.mod_lt b.toNat (show 0 < 7 by decide)
  refine ⟨i64_small (by simp only [cmdP]; omega) (by simp only [cmdP]; omega), ?_, ?_⟩
  · simp only [cmdP]
    split
    · exact i64_small (by omega) (by omega)
    · exact i64_small (by omega) (by omega)
  · simp only [cmdP]
    split
    · exact nameOf_size _
    · decide
theorem reqP_ok {c q a b d : Int} (hq : u8 q) : (reqP c q a b d).ok := by
  have h8 := Nat.mod_lt c.toNat (show 0 < 8 by decide)
  obtain ⟨h1, h2, h3⟩ := cmdP_ok a b d
  exact ⟨i64_small (by simp only [reqP]; omega) (by simp only [reqP]; omega), i64_small (by simp only [reqP]; have := hq.1; omega) (by simp only [reqP]; have := hq.2; omega), h1, h2, h3⟩
theorem u8_getD {l : List Int} (h : ∀ x ∈ l, u8 x) (i : Nat) : u8 (l.getD i 0) := by
  rw [List.getD_eq_getElem?_getD]
  cases hi : l[i]? with
  | none => exact ⟨Int.le_refl _, by decide⟩
  | some x => exact h x (List.mem_of_getElem? hi)
theorem reqsB_ok {l : List Int} (h : ∀ x ∈ l, u8 x) : ∀ (n i : Nat) (acc : List Req), acc.length ≤ 3 → (∀ r ∈ acc, r.ok) → (reqsB l acc n i).length ≤ 3 ∧ ∀ r ∈ reqsB l acc n i, r.ok
  | 0, i, acc, h1, h2 => ⟨h1, h2⟩
  | n + 1, i, acc, h1, h2 => by
    rw [reqsB]
    split
    · rename_i hc
      dsimp only
      split
      · exact reqsB_ok h n (i + 5) acc h1 h2
      · refine reqsB_ok h n (i + 5) _ (by rw [List.length_append, List.length_singleton]; omega) fun r hr => ?_
        rcases List.mem_append.1 hr with hr | hr
        · exact h2 r hr
        · rw [List.mem_singleton] at hr
          subst hr
          exact reqP_ok (u8_getD h _)
    · exact ⟨h1, h2⟩
theorem batchB_ok {l : List Int} (h : ∀ x ∈ l, u8 x) : (batchB l).ok ∧ (batchB l).reqs.length ≤ 3 := by
  unfold batchB
  split
  · exact ⟨⟨i64_small (by decide) (by decide), i64_small (by decide) (by decide), i64_small (by decide) (by decide), i64_small (by decide) (by decide), by decide, fun r hr => by cases hr⟩, by decide⟩
  · obtain ⟨h1, h2⟩ := reqsB_ok h l.length 4 [] (by decide) (fun r hr => by cases hr)
    have h8 := Nat.mod_lt (l.getD 2 0).toNat (show 0 < 8 by decide)
    have h4 := Nat.mod_lt (l.getD 0 0).toNat (show 0 < 4 by decide)
    have h6 := Nat.mod_lt (l.getD 1 0).toNat (show 0 < 6 by decide)
    have hu := u8_getD h 3
    exact ⟨⟨i64_small (by simp only; omega) (by simp only; omega), i64_small (by simp only; omega) (by simp only; omega), i64_small (by simp only; omega) (by simp only; omega), i64_small hu.1 (by have := hu.2; simp only; omega),
      by simp only; omega, h2⟩, h1⟩
theorem votesB_ok {d : Int} {l : List NVote} (hd : 0 ≤ d ∧ d < 8) (h : ∀ v ∈ l, v.ok) : ∀ (n s : Nat) (acc : List Vote), s + n ≤ 10 → (∀ v ∈ acc, v.ok) → (∀ v ∈ votesB d l acc n s, v.ok) ∧ (votesB d l acc n s).length ≤ acc.length + n
  | 0, s, acc, _, h2 => ⟨h2, Nat.le_refl _⟩
  | n + 1, s, acc, hs, h2 => by
    rw [votesB]
    cases hf : l.find? (voteAt s) with
    | none =>
      obtain ⟨q1, q2⟩ := votesB_ok hd h n (s + 1) acc (by omega) h2
      exact ⟨q1, by simp only; omega⟩
    | some v =>
      have hv := h v (List.mem_of_find?_eq_some hf)
      have hm := m8_lt (x := v.ballot) (m := 9) (by decide)
      obtain ⟨q1, q2⟩ := votesB_ok hd h n (s + 1) (acc ++ [⟨d + s, m8 v.ballot 9, batchB v.ns⟩]) (by omega) fun w hw => by
        rcases List.mem_append.1 hw with hw | hw
        · exact h2 w hw
        · rw [List.mem_singleton] at hw
          subst hw
          exact ⟨i64_small (by simp only; omega) (by simp only; omega), i64_small hm.1 (by have := hm.2; simp only; omega), (batchB_ok hv.2.2.2).1⟩
      rw [List.length_append, List.length_singleton] at q2
      exact ⟨q1, by simp only; omega⟩
theorem promB_okI {i : Int} {t : NTold} (hi : 0 ≤ i ∧ i < 8) (ht : t.ok) : (promB i t).ok := by
  have h8 := m8_lt (x := t.done) (m := 8) (by decide)
  have h4 := m8_lt (x := t.view) (m := 4) (by decide)
  have h6 := m8_lt (x := t.slot) (m := 6) (by decide)
  obtain ⟨_, _, _, hu, _, hv⟩ := ht
  obtain ⟨q1, q2⟩ := votesB_ok (d := m8 t.done 8) ⟨h8.1, by have := h8.2; omega⟩ hv 9 1 [] (by decide) (fun v hv => by cases hv)
  exact ⟨i64_small hi.1 (by simp only [promB]; omega), i64_small h8.1 (by simp only [promB]; have := h8.2; omega), i64_small h4.1 (by simp only [promB]; have := h4.2; omega), i64_small h6.1 (by simp only [promB]; have := h6.2; omega),
    i64_small hu.1 (by have := hu.2; simp only [promB]; omega), by simp only [promB]; simp only [List.length_nil] at q2; omega, q1⟩
end Go.Proofs.YtgiempmfpmlgnaaGreat

