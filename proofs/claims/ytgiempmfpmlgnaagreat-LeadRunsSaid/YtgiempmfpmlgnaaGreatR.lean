/- The plain law: votes laid by slots are the highest of each slot. -/
import Derived.Test.YtgiempmfpmlgnaaGreatQ
namespace Go.Proofs.YtgiempmfpmlgnaaGreat
open Go.Pk
set_option linter.unusedSimpArgs false
set_option linter.unusedVariables false
abbrev initH : Batch × Int × Int := (fillB, -1, 0)
def RelW (done : Int) (c : Int) (i : Nat) (h : Batch × Int × Int) : Option Vote → Prop
  | none => h = initH
  | some w => (w = hole ∧ h = initH) ∨ (w.slot = done + 1 + i ∧ w.batch = h.1 ∧ w.ballot = h.2.1 ∧ h.2.2 ≤ c ∧ 0 ≤ w.ballot)
def Rel (done c : Int) (best : List Vote) (h : Nat → Batch × Int × Int) : Prop := ∀ i : Nat, RelW done c i (h i) best[i]?
theorem growV_eq : ∀ (k : Nat) (b : List Vote), growV b k = b ++ List.replicate k hole
  | 0, b => by simp [growV]
  | k + 1, b => by rw [growV, growV_eq k, List.append_assoc, List.replicate_succ]; rfl
theorem Rel.grow {done c : Int} {best : List Vote} {h : Nat → Batch × Int × Int} (hr : Rel done c best h) (k : Nat) : Rel done c (growV best k) h := fun i => by
  have := hr i
  rw [growV_eq]
  by_cases h1 : i < best.length
  · rw [List.getElem?_append_left h1]
    exact this
  · rw [List.getElem?_append_right (by omega), List.getElem?_replicate]
    rw [List.getElem?_eq_none (by omega)] at this
    split
    · exact .inl ⟨rfl, this⟩
    · exact this
theorem Rel.step {done c : Int} {best : List Vote} {h : Nat → Batch × Int × Int} (hd : 0 ≤ done) (hr : Rel done c best h) (v : Vote) (hv : 0 ≤ v.ballot) :
    Rel done c (stepV done best v) (fun i => highV (done + 1 + i) c (h i) v) := by
  unfold stepV
  by_cases hneg : v.slot - done - 1 < 0
  · rw [if_pos hneg]
    intro i
    have : highV (done + 1 + i) c (h i) v = h i := by rw [highV, if_neg (by omega)]
    simp only [this]
    exact hr i
  · rw [if_neg hneg]
    obtain ⟨a, ha⟩ : ∃ a : Nat, v.slot = done + 1 + a := ⟨(v.slot - done - 1).toNat, by omega⟩
    have e1 : (v.slot - done).toNat = a + 1 := by omega
    have e2 : (v.slot - done - 1).toNat = a := by omega
    rw [e1, e2]
    have hg := hr.grow (a + 1 - best.length)
    have hlen : a < (growV best (a + 1 - best.length)).length := by rw [growV_len]; omega
    generalize growV best (a + 1 - best.length) = b at hg hlen
    intro i
    have hi := hg i
    unfold layV
    rw [List.getElem?_eq_getElem hlen]
    simp only
    by_cases hia : i = a
    · subst hia
      rw [List.getElem?_eq_getElem hlen] at hi
      rcases hi with ⟨hw, hh⟩ | ⟨hw1, hw2, hw3, hw4, hw5⟩
      · have hc : highV (done + 1 + i) c (h i) v = (v.batch, v.ballot, c) := by
          rw [highV, hh, if_pos ⟨ha, .inl (by simp only; omega)⟩]
        rw [hc, if_pos (by rw [hw]; rfl), List.getElem?_set_self hlen]
        exact .inr ⟨ha, rfl, rfl, Int.le_refl _, hv⟩
      · by_cases hlt : v.ballot > b[i].ballot
        · have hc : highV (done + 1 + i) c (h i) v = (v.batch, v.ballot, c) := by
            rw [highV, if_pos ⟨ha, .inl (by omega)⟩]
          rw [hc, if_pos (by simp [hlt]), List.getElem?_set_self hlen]
          exact .inr ⟨ha, rfl, rfl, Int.le_refl _, hv⟩
        · have hc : highV (done + 1 + i) c (h i) v = h i := by
            rw [highV, if_neg (by omega)]
          rw [hc, if_neg (by simp [hlt]; omega), List.getElem?_eq_getElem hlen]
          exact .inr ⟨hw1, hw2, hw3, hw4, hw5⟩
    · have hc : highV (done + 1 + i) c (h i) v = h i := by rw [highV, if_neg (by omega)]
      simp only [hc]
      split
      · rw [List.getElem?_set_ne (Ne.symm hia)]
        exact hi
      · exact hi
theorem Rel.votes {done c : Int} (hd : 0 ≤ done) : ∀ (vs : List Vote) {best : List Vote} {h : Nat → Batch × Int × Int}, Rel done c best h → (∀ v ∈ vs, 0 ≤ v.ballot) →
    Rel done c (vs.foldl (stepV done) best) (fun i => vs.foldl (highV (done + 1 + i) c) (h i))
  | [], _, _, hr, _ => hr
  | v :: vs, _, _, hr, hv => Rel.votes hd vs (hr.step hd v (hv v (by simp))) fun w hw => hv w (by simp [hw])
theorem Rel.mono {done c c' : Int} {best : List Vote} {h : Nat → Batch × Int × Int} (hr : Rel done c best h) (hc : c ≤ c') : Rel done c' best h := fun i => by
  have := hr i
  cases hb : best[i]? with
  | none => rw [hb] at this; exact this
  | some w =>
    rw [hb] at this
    rcases this with h1 | ⟨h1, h2, h3, h4, h5⟩
    · exact .inl h1
    · exact .inr ⟨h1, h2, h3, by omega, h5⟩
theorem Rel.proms {done : Int} (hd : 0 ≤ done) : ∀ (s : List Prom) {c : Int} {best : List Vote} {h : Nat → Batch × Int × Int}, Rel done c best h → Srt s → (∀ p ∈ s, c ≤ p.src) → (∀ p ∈ s, ∀ v ∈ p.votes, 0 ≤ v.ballot) →
    ∃ c', Rel done c' (bestOf done best s) (fun i => highestP (done + 1 + i) (h i) s)
  | [], c, _, _, hr, _, _, _ => ⟨c, hr⟩
  | p :: s, c, best, h, hr, hs, hc, hv => by
    have hs' := List.pairwise_cons.1 hs
    have h1 := Rel.votes hd p.votes (hr.mono (hc p (by simp))) (hv p (by simp))
    exact Rel.proms hd s h1 hs'.2 hs'.1 fun q hq => hv q (by simp [hq])
theorem stepV_length {done : Int} {best : List Vote} {v : Vote} : (stepV done best v).length = max best.length (v.slot - done).toNat := by
  unfold stepV
  split
  · omega
  · rw [layV_len, growV_len]
    omega
theorem votesMay_gt {d : Int} : ∀ {last : Int} {l : List Vote}, votesMay d last l = true → ∀ v ∈ l, last < v.slot
  | last, [], _, v, hv => by cases hv
  | last, w :: l, h, v, hv => by
    rw [votesMay] at h
    split at h
    · cases h
    · rename_i hc
      simp only [Bool.or_eq_true, not_or, decide_eq_true_eq] at hc
      have h1 : last < w.slot := by have := hc.1.1.1; omega
      rcases List.mem_cons.1 hv with rfl | hv
      · exact h1
      · have := votesMay_gt h v hv
        omega
theorem votes_length {done d : Int} : ∀ {vs : List Vote} {last : Int} {best : List Vote}, votesMay d last vs = true →
    (vs.foldl (stepV done) best).length = match vs.getLast? with | some w => max best.length (w.slot - done).toNat | none => best.length
  | [], _, _, _ => rfl
  | v :: vs, last, best, h => by
    rw [votesMay] at h
    split at h
    · cases h
    · rw [List.foldl_cons, votes_length h, stepV_length]
      cases vs with
      | nil => rfl
      | cons w vs =>
        rw [List.getLast?_cons_cons]
        cases hl : (w :: vs).getLast? with
        | none => simp at hl
        | some z =>
          simp only
          have := votesMay_gt h z (List.mem_of_getLast? hl)
          omega
theorem bestOf_length {done : Int} : ∀ (s : List Prom) (best : List Vote) (m : Int), done ≤ m → best.length = (m - done).toNat → (∀ p ∈ s, votesMay p.done p.done p.votes = true) → (bestOf done best s).length = (lastR m s - done).toNat
  | [], _, _, _, h, _ => h
  | p :: s, best, m, hm, h, hv => by
    have h1 := votes_length (done := done) (best := best) (hv p (by simp))
    have e1 : bestOf done best (p :: s) = bestOf done (p.votes.foldl (stepV done) best) s := rfl
    have e2 : lastR m (p :: s) = lastR (match p.votes.getLast? with | some v => max m v.slot | none => m) s := rfl
    rw [e1, e2]
    refine bestOf_length s _ _ ?_ ?_ fun q hq => hv q (by simp [hq])
    · cases p.votes.getLast? with
      | none => exact hm
      | some w => simp only; omega
    · rw [h1]
      cases p.votes.getLast? with
      | none => exact h
      | some w => simp only; omega
theorem slotsR_get {l : List Prom} : ∀ (n : Nat) (first : Int) (i : Nat), (slotsR l first n)[i]? = if i < n then some (highestP (first + i) initH l).1 else none
  | 0, first, i => by simp [slotsR]
  | n + 1, first, 0 => by simp [slotsR]
  | n + 1, first, i + 1 => by
    rw [slotsR, List.getElem?_cons_succ, slotsR_get n (first + 1) i]
    simp only [Nat.add_lt_add_iff_right]
    rw [show first + 1 + (i : Int) = first + ((i + 1 : Nat) : Int) by omega]
theorem lay_eq {done : Int} (hd : 0 ≤ done) {s : List Prom} (hs : Srt s) (h0 : ∀ p ∈ s, 0 ≤ p.src) (hb : ∀ p ∈ s, ∀ v ∈ p.votes, 0 ≤ v.ballot) (hv : ∀ p ∈ s, votesMay p.done p.done p.votes = true) :
    (bestOf done [] s).map Vote.batch = slotsR s (done + 1) (lastR done s - done).toNat := by
  obtain ⟨c', hr⟩ := Rel.proms hd s (c := 0) (best := []) (h := fun _ => initH) (fun i => rfl) hs h0 hb
  have hlen := bestOf_length (done := done) s [] done (Int.le_refl _) (by simp) hv
  apply List.ext_getElem?
  intro i
  rw [slotsR_get, List.getElem?_map]
  by_cases hi : i < (bestOf done [] s).length
  · rw [if_pos (by omega)]
    have := hr i
    rw [List.getElem?_eq_getElem hi] at this ⊢
    simp only [Option.map_some]
    rcases this with ⟨h1, h2⟩ | ⟨h1, h2, _⟩
    · rw [h1]
      simp only at h2
      rw [h2]
      rfl
    · rw [h2]
  · rw [if_neg (by omega), List.getElem?_eq_none (by omega)]
    rfl
theorem planP_eq {s : List Prom} (hs : Srt s) (hm : ∀ p ∈ s, MayP p) (h : s ≠ []) : planP s = planR s := by
  rw [planR_eq s h]
  cases s with
  | nil => exact (h rfl).elim
  | cons p l =>
    have hs' := List.pairwise_cons.1 hs
    have hb := baseP_best l p hs'.1 hs'.2
    have hbp : l.foldl better p = bestP (p :: l) := rfl
    rw [hbp] at hb
    have hmem : ∀ (l : List Prom) (b : Prom) (P : Prom → Prop), P b → (∀ p ∈ l, P p) → P (l.foldl better b) := fun l => by
      induction l with
      | nil => intro b P h _; exact h
      | cons q l ih =>
        intro b P h1 h2
        refine ih _ P ?_ fun x hx => h2 x (by simp [hx])
        unfold better
        split
        · exact h2 q (by simp)
        · exact h1
    have hd : 0 ≤ (bestP (p :: l)).done := hmem l p (fun q => 0 ≤ q.done) (hm p (by simp)).done.1 fun q hq => (hm q (by simp [hq])).done.1
    have hl := lay_eq hd hs (fun p hp => (hm p hp).src.1) (fun p hp v hv => (bad_false ((hm p hp).votes v hv).2.2.2.1).1) fun p hp => (hm p hp).may
    show (let b := baseP (p.done, p.tip, p.time) l; let bs := (bestOf b.1 [] (p :: l)).map Vote.batch; let w := walkP (fixF (b.1 + 1)) 0 b.2.1 b.2.2 bs; (⟨b.1, b.2.1, b.2.2, bs, w.1, w.2⟩ : Plan)) = _
    rw [hb]
    simp only
    rw [hl]
theorem makeR_eq (l : List Prom) : makeR l = makeP l := by
  unfold makeR makeP
  split
  · rfl
  · rename_i h0
    split
    · rename_i ht
      obtain ⟨hmay, hnd, h7⟩ := told_of ht
      obtain ⟨hp, hs⟩ := sortedP_spec l
      have hne : sortedP l ≠ [] := fun e => h0 (by have := hp.length_eq; rw [e] at this; simpa using this.symm)
      rw [planP_eq hs (fun p hq => hmay p (hp.mem_iff.1 hq)) hne, planR_perm hp.symm hnd]
    · rfl
end Go.Proofs.YtgiempmfpmlgnaaGreat

