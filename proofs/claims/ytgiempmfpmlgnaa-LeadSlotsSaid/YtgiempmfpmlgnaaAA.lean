/- PlanOrder: what is so of promises that numbers make, in plain words: no program in sight. -/
import Derived.Test.YtgiempmfpmlgnaaY
namespace Go.Proofs.Ytgiempmfpmlgnaa
open Go.Pk
set_option linter.unusedSimpArgs false
set_option linter.unusedVariables false
/-! ### They may be -/
theorem nameP_of (k : Nat) : nameP (nameOf k) = true := by
  unfold nameOf
  split <;> decide
theorem mayP_of (a b c : Int) : mayP (cmdP a b c).1 (cmdP a b c).2.1 (cmdP a b c).2.2 = true := by
  have h6 := Nat.mod_lt a.toNat (show 0 < 6 by decide)
  have h7 := Nat.mod_lt b.toNat (show 0 < 7 by decide)
  have hn := nameP_of (c.toNat % 6)
  unfold mayP cmdP
  simp only
  generalize a.toNat % 6 = k at h6 ⊢
  generalize b.toNat % 7 = m at h7 ⊢
  generalize nameOf (c.toNat % 6) = nm at hn ⊢
  have hk : k = 0 ∨ k = 1 ∨ k = 2 ∨ k = 3 ∨ k = 4 ∨ k = 5 := by omega
  rcases hk with rfl | rfl | rfl | rfl | rfl | rfl <;> simp [hn] <;> first | rfl | omega
theorem reqP_may {c q a b d : Int} (hq : u8 q) : Req.may (reqP c q a b d) = true := by
  have h8 := Nat.mod_lt c.toNat (show 0 < 8 by decide)
  have h := mayP_of a b d
  unfold Req.may
  simp only [reqP, h, Bool.and_true, Bool.and_eq_true, decide_eq_true_eq, High]
  have h1 := hq.1
  have h2 := hq.2
  refine ⟨⟨⟨?_, ?_⟩, ?_⟩, ?_⟩
  all_goals exact decide_eq_true (by omega)
theorem reqsMay_intro {l : List Req} : ∀ (rest pre : List Req), l = pre ++ rest → (∀ r ∈ l, Req.may r = true) → (l.map Req.client).Nodup → reqsMay l pre.length rest = true
  | [], _, _, _, _ => rfl
  | r :: rest, pre, hl, hm, hn => by
    have hr : Req.may r = true := hm r (by rw [hl]; simp)
    have ht : l.take pre.length = pre := by rw [hl]; simp
    rw [reqsMay, if_neg]
    · have := reqsMay_intro rest (pre ++ [r]) (by rw [hl]; simp) hm hn
      rwa [List.length_append, List.length_singleton] at this
    · rw [hr, ht]
      simp only [Bool.not_true, Bool.false_or, List.any_eq_true, not_exists, not_and, beq_iff_eq]
      intro o ho he
      rw [hl, List.map_append, List.map_cons, List.nodup_append] at hn
      exact hn.2.2 _ (List.mem_map_of_mem ho) _ (List.mem_cons_self ..) he
theorem reqsB_may {l : List Int} (h : ∀ x ∈ l, u8 x) : ∀ (n i : Nat) (acc : List Req), (∀ r ∈ acc, Req.may r = true) → (acc.map Req.client).Nodup →
    (∀ r ∈ reqsB l acc n i, Req.may r = true) ∧ ((reqsB l acc n i).map Req.client).Nodup
  | 0, i, acc, h1, h2 => ⟨h1, h2⟩
  | n + 1, i, acc, h1, h2 => by
    rw [reqsB]
    split
    · dsimp only
      split
      · exact reqsB_may h n (i + 5) acc h1 h2
      · rename_i hc
        refine reqsB_may h n (i + 5) _ (fun r hr => ?_) ?_
        · rcases List.mem_append.1 hr with hr | hr
          · exact h1 r hr
          · rw [List.mem_singleton] at hr
            subst hr
            exact reqP_may (u8_getD h _)
        · rw [List.map_append, List.nodup_append]
          refine ⟨h2, by simp, fun a ha b hb => ?_⟩
          obtain ⟨o, ho, rfl⟩ := List.mem_map.1 ha
          simp only [List.map_cons, List.map_nil, List.mem_singleton] at hb
          subst hb
          intro he
          exact hc (List.any_eq_true.2 ⟨o, ho, by rw [he]; simp⟩)
    · exact ⟨h1, h2⟩
theorem bad_small {n : Int} (h : 0 ≤ n) (h2 : n < 1000) : bad n = false := by
  unfold bad
  simp only [Bool.or_eq_false_iff, decide_eq_false_iff_not, High]
  omega
theorem batchB_may {l : List Int} (h : ∀ x ∈ l, u8 x) : Batch.may (batchB l) = true := by
  unfold batchB
  split
  · rfl
  · obtain ⟨h1, h2⟩ := reqsB_may h l.length 4 [] (fun r hr => by cases hr) (by simp)
    obtain ⟨h3, _⟩ := reqsB_ok h l.length 4 [] (by decide) (fun r hr => by cases hr)
    have h8 := Nat.mod_lt (l.getD 2 0).toNat (show 0 < 8 by decide)
    have h4 := Nat.mod_lt (l.getD 0 0).toNat (show 0 < 4 by decide)
    have h6 := Nat.mod_lt (l.getD 1 0).toNat (show 0 < 6 by decide)
    have hu := u8_getD h 3
    unfold Batch.may
    simp only
    rw [if_neg (by simp), if_neg]
    · exact reqsMay_intro (l := reqsB l [] l.length 4) _ [] rfl h1 h2
    · simp only [List.any_cons, List.any_nil, bad_small (show (0 : Int) ≤ (((l.getD 2 0).toNat % 8 : Nat) : Int) by omega) (by omega), bad_small hu.1 (by have := hu.2; omega),
        bad_small (show (0 : Int) ≤ (((l.getD 0 0).toNat % 4 : Nat) : Int) by omega) (by omega), bad_small (show (0 : Int) ≤ (((l.getD 1 0).toNat % 6 : Nat) : Int) by omega) (by omega)]
      simp
      omega
theorem votesB_app {d : Int} {l : List NVote} : ∀ (n s : Nat) (acc : List Vote), votesB d l acc n s = acc ++ votesB d l [] n s
  | 0, s, acc => by simp [votesB]
  | n + 1, s, acc => by
    rw [votesB, votesB]
    cases l.find? (voteAt s) with
    | none => simp only; exact votesB_app n (s + 1) acc
    | some v =>
      simp only [List.nil_append]
      rw [votesB_app n (s + 1) (acc ++ [_]), votesB_app n (s + 1) [_], List.append_assoc]
theorem votesB_may {d : Int} {l : List NVote} (hd : 0 ≤ d ∧ d < 8) (h : ∀ v ∈ l, v.ok) : ∀ (n s : Nat) (last : Int), s + n ≤ 10 → last < d + s → votesMay d last (votesB d l [] n s) = true
  | 0, s, last, _, _ => rfl
  | n + 1, s, last, hs, hl => by
    rw [votesB]
    cases hf : l.find? (voteAt s) with
    | none => simp only; exact votesB_may hd h n (s + 1) last (by omega) (by omega)
    | some v =>
      have hv := h v (List.mem_of_find?_eq_some hf)
      have hm := m8_lt (x := v.ballot) (m := 9) (by decide)
      simp only [List.nil_append]
      rw [votesB_app, List.singleton_append, votesMay, if_neg]
      · exact votesB_may hd h n (s + 1) (d + s) (by omega) (by omega)
      · simp only [bad_small (show (0 : Int) ≤ d + s by omega) (by omega), bad_small hm.1 (by have := hm.2; omega), batchB_may hv.2.2.2]
        simp
        omega
theorem promB_may {i : Int} {t : NTold} (hi : 0 ≤ i ∧ i < 7) (ht : t.ok) : Prom.may (promB i t) = true := by
  have h8 := m8_lt (x := t.done) (m := 8) (by decide)
  have h4 := m8_lt (x := t.view) (m := 4) (by decide)
  have h6 := m8_lt (x := t.slot) (m := 6) (by decide)
  obtain ⟨_, _, _, hu, _, hv⟩ := ht
  have hd : 0 ≤ m8 t.done 8 ∧ m8 t.done 8 < 8 := ⟨h8.1, by have := h8.2; omega⟩
  have q1 := votesB_may (d := m8 t.done 8) hd hv 9 1 (m8 t.done 8) (by decide) (by omega)
  obtain ⟨_, q2⟩ := votesB_ok (d := m8 t.done 8) hd hv 9 1 [] (by decide) (fun v hv => by cases hv)
  rw [List.length_nil] at q2
  have e : Prom.may (promB i t) = if (decide (i < 0) || decide (i ≥ 7) || [m8 t.done 8, m8 t.view 4, m8 t.slot 6, t.time].any bad || decide (((votesB (m8 t.done 8) t.votes [] 9 1).length : Int) > 9)) = true then false else votesMay (m8 t.done 8) (m8 t.done 8) (votesB (m8 t.done 8) t.votes [] 9 1) := rfl
  rw [e, if_neg, q1]
  simp only [List.any_cons, List.any_nil, bad_small h8.1 (by have := h8.2; omega), bad_small h4.1 (by have := h4.2; omega), bad_small h6.1 (by have := h6.2; omega), bad_small hu.1 (by have := hu.2; omega)]
  simp
  omega
theorem toldMay_intro {l : List Prom} : ∀ (rest pre : List Prom), l = pre ++ rest → (∀ r ∈ l, Prom.may r = true) → (l.map Prom.src).Nodup → toldMay l pre.length rest = true
  | [], _, _, _, _ => rfl
  | r :: rest, pre, hl, hm, hn => by
    have hr : Prom.may r = true := hm r (by rw [hl]; simp)
    have ht : l.take pre.length = pre := by rw [hl]; simp
    rw [toldMay, if_neg]
    · have := toldMay_intro rest (pre ++ [r]) (by rw [hl]; simp) hm hn
      rwa [List.length_append, List.length_singleton] at this
    · rw [hr, ht]
      simp only [Bool.not_true, Bool.false_or, List.any_eq_true, not_exists, not_and, beq_iff_eq]
      intro o ho he
      rw [hl, List.map_append, List.map_cons, List.nodup_append] at hn
      exact hn.2.2 _ (List.mem_map_of_mem ho) _ (List.mem_cons_self ..) he
theorem makeR_told {l : List Prom} (hne : l ≠ []) (hm : ∀ r ∈ l, Prom.may r = true) (hn : (l.map Prom.src).Nodup) : makeP l = (planR l, 0) := by
  rw [← makeR_eq]
  unfold makeR
  rw [if_neg (by simpa using hne), if_pos (show toldMay l 0 l = true from toldMay_intro l [] rfl hm hn)]
/-! ### What is made of them -/
theorem walkP_ge {f : Int} : ∀ {bs : List Batch} {i : Nat} {t : Tip} {m : Int}, m ≤ (walkP f i t m bs).2
  | [], _, _, _ => Int.le_refl _
  | b :: bs, i, t, m => by
    rw [walkP]
    split
    · have := walkP_ge (f := f) (bs := bs) (i := i + 1) (t := ⟨b.view, f + i⟩) (m := max m b.time)
      omega
    · exact walkP_ge
theorem bestR_mem : ∀ {l : List Prom} {b : Nat × Prom} {i : Nat}, (bestR b i l).2 ∈ b.2 :: l
  | [], b, i => by simp [bestR]
  | q :: l, b, i => by
    rw [bestR]
    split
    · have := bestR_mem (l := l) (b := (i, q)) (i := i + 1)
      simp only at this
      exact List.mem_cons_of_mem _ this
    · have := bestR_mem (l := l) (b := b) (i := i + 1)
      rcases List.mem_cons.1 this with h | h
      · rw [h]; exact List.mem_cons_self ..
      · exact List.mem_cons_of_mem _ (List.mem_cons_of_mem _ h)
end Go.Proofs.Ytgiempmfpmlgnaa

