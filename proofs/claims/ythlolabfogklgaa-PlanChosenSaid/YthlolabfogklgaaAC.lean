/- PlanChosen: what a quorum has voted for, in plain words: no program in sight. -/
import Derived.Test.YthlolabfogklgaaAA
namespace Go.Proofs.Ythlolabfogklgaa
open Go.Pk
set_option linter.unusedSimpArgs false
set_option linter.unusedVariables false
def bitAt (w : Int) (i : Nat) : Bool := (IntKind.u8.wrap ((BitVec.ofInt IntKind.u8.bits (w.fdiv (2 ^ (min i IntKind.u8.bits))) &&& BitVec.ofInt IntKind.u8.bits 1).toNat : Int)) == 1
/-- Votes, one of which is another one now, or one more. -/
def withP (v : Vote) : Bool → List Vote → List Vote
  | put, [] => if put = true then [] else [v]
  | put, w :: l => (if (!put && decide (w.slot ≥ v.slot)) = true then [v] else []) ++ ((if (w.slot != v.slot) = true then [w] else []) ++ withP v (put || decide (w.slot ≥ v.slot)) l)
def modP (v : Vote) (b : Bool) (p : Prom) : Prom := if (b && decide (p.done < v.slot)) = true then { p with votes := withP v false p.votes } else p
def curP (v : Vote) (w : Int) (ps : List Prom) (i : Nat) : List Prom := ps.mapIdx fun j p => if j < i then modP v (bitAt w j) p else p
def quoP (v : Vote) (w a : Int) (ps : List Prom) (i : Nat) : List Prom := (List.range i).filterMap fun j => if bitAt a j = true then (ps[j]?).map (modP v (bitAt w j)) else none
def cntB (w : Int) (i : Nat) : Nat := (List.range i).countP (bitAt w)
theorem withP_mem {v : Vote} : ∀ {l : List Vote} {put : Bool} {u : Vote}, u ∈ withP v put l → u = v ∨ (u ∈ l ∧ u.slot ≠ v.slot)
  | [], put, u, h => by
    rw [withP] at h
    split at h
    · cases h
    · exact .inl (List.mem_singleton.1 h)
  | w :: l, put, u, h => by
    rw [withP] at h
    rcases List.mem_append.1 h with h | h
    · split at h
      · exact .inl (List.mem_singleton.1 h)
      · cases h
    · rcases List.mem_append.1 h with h | h
      · split at h
        · rename_i hc
          rw [List.mem_singleton] at h
          subst h
          exact .inr ⟨by simp, by simpa using hc⟩
        · cases h
      · exact (withP_mem h).imp id fun ⟨h1, h2⟩ => ⟨by simp [h1], h2⟩
theorem withP_has {v : Vote} : ∀ {l : List Vote}, v ∈ withP v false l
  | [] => by simp [withP]
  | w :: l => by
    rw [withP]
    by_cases h : w.slot ≥ v.slot
    · simp [h]
    · have := withP_has (v := v) (l := l)
      simp [h, this]
theorem withP_len {v : Vote} : ∀ {l : List Vote} {put : Bool}, (withP v put l).length ≤ l.length + if put = true then 0 else 1
  | [], put => by rw [withP]; split <;> simp
  | w :: l, put => by
    have := withP_len (v := v) (l := l) (put := put || decide (w.slot ≥ v.slot))
    rw [withP, List.length_append, List.length_append, List.length_cons]
    cases put with
    | true =>
      simp only [Bool.not_true, Bool.false_and, Bool.false_eq_true, if_false, List.length_nil, Bool.true_or, if_true] at this ⊢
      split <;> simp <;> omega
    | false =>
      by_cases h : w.slot ≥ v.slot
      · simp only [h, decide_true, Bool.not_false, Bool.true_and, if_true, List.length_singleton, Bool.false_or, Bool.false_eq_true, if_false] at this ⊢
        split <;> simp <;> omega
      · simp only [h, decide_false, Bool.not_false, Bool.true_and, Bool.false_eq_true, if_false, List.length_nil, Bool.false_or] at this ⊢
        split <;> simp <;> omega
theorem curP_zero {v : Vote} {w : Int} {ps : List Prom} : curP v w ps 0 = ps := by
  apply List.ext_getElem?
  intro j
  unfold curP
  rw [List.getElem?_mapIdx]
  cases ps[j]? <;> simp
theorem curP_len {v : Vote} {w : Int} {ps : List Prom} {i : Nat} : (curP v w ps i).length = ps.length := by simp [curP]
theorem curP_at {v : Vote} {w : Int} {ps : List Prom} {i j : Nat} (hj : j < ps.length) : (curP v w ps i)[j]? = some (if j < i then modP v (bitAt w j) ps[j] else ps[j]) := by
  unfold curP
  rw [List.getElem?_mapIdx, List.getElem?_eq_getElem hj]
  rfl
theorem curP_succ {v : Vote} {w : Int} {ps : List Prom} {i : Nat} (hi : i < ps.length) : curP v w ps (i + 1) = (curP v w ps i).set i (modP v (bitAt w i) ps[i]) := by
  apply List.ext_getElem?
  intro j
  rw [List.getElem?_set, curP_len]
  by_cases hj : j < ps.length
  · rw [curP_at hj]
    by_cases hij : i = j
    · subst hij
      rw [if_pos rfl, if_pos hi, if_pos (by omega)]
    · rw [if_neg hij, curP_at hj]
      by_cases h : j < i
      · rw [if_pos h, if_pos (by omega)]
      · rw [if_neg h, if_neg (by omega)]
  · rw [List.getElem?_eq_none (by rw [curP_len]; omega)]
    rw [if_neg (by omega), List.getElem?_eq_none (by rw [curP_len]; omega)]
theorem quoP_succ {v : Vote} {w a : Int} {ps : List Prom} {i : Nat} (hi : i < ps.length) : quoP v w a ps (i + 1) = if bitAt a i = true then quoP v w a ps i ++ [modP v (bitAt w i) ps[i]] else quoP v w a ps i := by
  unfold quoP
  rw [List.range_succ, List.filterMap_append, List.filterMap_cons, List.filterMap_nil, List.getElem?_eq_getElem hi]
  cases hb : bitAt a i <;> simp
theorem cntB_succ {w : Int} {i : Nat} : cntB w (i + 1) = cntB w i + if bitAt w i = true then 1 else 0 := by
  unfold cntB
  rw [List.range_succ, List.countP_append, List.countP_cons, List.countP_nil]
  simp
theorem cntB_le {w : Int} : ∀ {i : Nat}, cntB w i ≤ i
  | 0 => Nat.le_refl _
  | i + 1 => by
    have := cntB_le (w := w) (i := i)
    rw [cntB_succ]
    split <;> omega
theorem quoP_len {v : Vote} {w a : Int} {ps : List Prom} : ∀ {i : Nat}, i ≤ ps.length → (quoP v w a ps i).length = cntB a i
  | 0, _ => rfl
  | i + 1, h => by
    have := quoP_len (v := v) (w := w) (a := a) (ps := ps) (i := i) (by omega)
    rw [quoP_succ (by omega), cntB_succ]
    split
    · rw [List.length_append, this]; rfl
    · rw [this]; rfl
theorem meet {w a : Int} : ∀ {k : Nat}, (∀ j, j < k → ¬ (bitAt w j = true ∧ bitAt a j = true)) → cntB w k + cntB a k ≤ k
  | 0, _ => Nat.le_refl _
  | k + 1, h => by
    have h1 := meet (w := w) (a := a) (k := k) fun j hj => h j (by omega)
    have h2 := h k (by omega)
    rw [cntB_succ, cntB_succ]
    cases hw : bitAt w k <;> cases ha : bitAt a k <;> simp [hw, ha] at h2 ⊢ <;> omega
theorem meet_of {w a : Int} {k : Nat} (h1 : k < 2 * cntB w k) (h2 : k < 2 * cntB a k) : ∃ j, j < k ∧ bitAt w j = true ∧ bitAt a j = true := by
  apply Classical.byContradiction
  intro hn
  have := meet (w := w) (a := a) (k := k) fun j hj hb => hn ⟨j, hj, hb⟩
  omega
theorem modP_src {v : Vote} {b : Bool} {p : Prom} : (modP v b p).src = p.src ∧ (modP v b p).done = p.done := by
  unfold modP
  split <;> exact ⟨rfl, rfl⟩
theorem quoP_mem {v : Vote} {w a : Int} {ps : List Prom} : ∀ {i : Nat}, i ≤ ps.length → ∀ {p : Prom}, p ∈ quoP v w a ps i → ∃ j, ∃ h : j < ps.length, j < i ∧ bitAt a j = true ∧ p = modP v (bitAt w j) ps[j]
  | 0, _, p, h => by simp [quoP] at h
  | i + 1, hi, p, h => by
    rw [quoP_succ (by omega)] at h
    have ih : p ∈ quoP v w a ps i → ∃ j, ∃ h : j < ps.length, j < i + 1 ∧ bitAt a j = true ∧ p = modP v (bitAt w j) ps[j] := fun h => by
      obtain ⟨j, h1, h2, h3, h4⟩ := quoP_mem (by omega) h
      exact ⟨j, h1, by omega, h3, h4⟩
    split at h
    · rename_i hb
      rcases List.mem_append.1 h with h | h
      · exact ih h
      · exact ⟨i, by omega, by omega, hb, List.mem_singleton.1 h⟩
    · exact ih h
theorem quoP_has {v : Vote} {w a : Int} {ps : List Prom} {i j : Nat} (hj : j < ps.length) (hi : i ≤ ps.length) (hji : j < i) (hb : bitAt a j = true) : modP v (bitAt w j) ps[j] ∈ quoP v w a ps i := by
  unfold quoP
  rw [List.mem_filterMap]
  exact ⟨j, List.mem_range.2 hji, by rw [if_pos hb, List.getElem?_eq_getElem hj]; rfl⟩
theorem quoP_nodup {v : Vote} {w a : Int} {ps : List Prom} (hn : (ps.map Prom.src).Nodup) : ∀ {i : Nat}, i ≤ ps.length → ((quoP v w a ps i).map Prom.src).Nodup
  | 0, _ => by simp [quoP]
  | i + 1, hi => by
    have ih := quoP_nodup (v := v) (w := w) (a := a) hn (i := i) (by omega)
    rw [quoP_succ (by omega)]
    split
    · rw [List.map_append, List.nodup_append]
      refine ⟨ih, by simp, fun x hx y hy he => ?_⟩
      obtain ⟨p, hp, rfl⟩ := List.mem_map.1 hx
      obtain ⟨j, h1, h2, h3, rfl⟩ := quoP_mem (by omega) hp
      simp only [List.map_cons, List.map_nil, List.mem_singleton] at hy
      subst hy
      rw [modP_src.1, modP_src.1] at he
      have hlt : j < (ps.map Prom.src).length := by simpa using h1
      have hlt2 : i < (ps.map Prom.src).length := by simp; omega
      have : (ps.map Prom.src)[j] = (ps.map Prom.src)[i] := by simpa using he
      have := (List.getElem_inj hn).1 this
      omega
    · exact ih
/-! ### The greatest ballot -/
def goodH (v : Vote) (st : Batch × Int × Int) : Prop := st.1 = v.batch ∧ st.2.1 = v.ballot
def invH (v : Vote) (st : Batch × Int × Int) : Prop := st.2.1 < v.ballot ∨ goodH v st
def lessV (v u : Vote) : Prop := u.slot = v.slot → u.ballot < v.ballot ∨ (u.batch = v.batch ∧ u.ballot = v.ballot)
theorem highV_inv {v u : Vote} {src : Int} {st : Batch × Int × Int} (h : invH v st) (hu : lessV v u) : invH v (highV v.slot src st u) := by
  unfold highV
  split
  · rename_i hc
    rcases hu hc.1 with h1 | ⟨h1, h2⟩
    · exact .inl h1
    · exact .inr ⟨h1, h2⟩
  · exact h
theorem highV_good {v u : Vote} {src : Int} {st : Batch × Int × Int} (h : goodH v st) (hu : lessV v u) : goodH v (highV v.slot src st u) := by
  unfold highV
  split
  · rename_i hc
    rcases hu hc.1 with h1 | ⟨h1, h2⟩
    · obtain ⟨g1, g2⟩ := h
      exfalso
      omega
    · exact ⟨h1, h2⟩
  · exact h
theorem highV_hit {v : Vote} {src : Int} {st : Batch × Int × Int} (h : invH v st) : goodH v (highV v.slot src st v) := by
  unfold highV
  split
  · exact ⟨rfl, rfl⟩
  · rename_i hc
    rcases h with h | h
    · exact absurd ⟨rfl, .inl h⟩ hc
    · exact h
theorem foldV_inv {v : Vote} {src : Int} : ∀ {l : List Vote} {st : Batch × Int × Int}, invH v st → (∀ u ∈ l, lessV v u) → invH v (l.foldl (highV v.slot src) st)
  | [], _, h, _ => h
  | u :: l, st, h, hu => foldV_inv (l := l) (highV_inv h (hu u (by simp))) fun x hx => hu x (by simp [hx])
theorem foldV_good {v : Vote} {src : Int} : ∀ {l : List Vote} {st : Batch × Int × Int}, goodH v st → (∀ u ∈ l, lessV v u) → goodH v (l.foldl (highV v.slot src) st)
  | [], _, h, _ => h
  | u :: l, st, h, hu => foldV_good (l := l) (highV_good h (hu u (by simp))) fun x hx => hu x (by simp [hx])
theorem foldV_hit {v : Vote} {src : Int} : ∀ {l : List Vote} {st : Batch × Int × Int}, invH v st → (∀ u ∈ l, lessV v u) → v ∈ l → goodH v (l.foldl (highV v.slot src) st)
  | [], _, _, _, hm => by cases hm
  | u :: l, st, h, hu, hm => by
    rw [List.foldl_cons]
    rcases List.mem_cons.1 hm with rfl | hm
    · exact foldV_good (highV_hit h) fun x hx => hu x (by simp [hx])
    · exact foldV_hit (highV_inv h (hu u (by simp))) (fun x hx => hu x (by simp [hx])) hm
theorem highP_good {v : Vote} : ∀ {l : List Prom} {st : Batch × Int × Int}, goodH v st → (∀ p ∈ l, ∀ u ∈ p.votes, lessV v u) → goodH v (highestP v.slot st l)
  | [], _, h, _ => h
  | p :: l, st, h, hu => highP_good (l := l) (foldV_good h (hu p (by simp))) fun x hx => hu x (by simp [hx])
theorem highP_hit {v : Vote} : ∀ {l : List Prom} {st : Batch × Int × Int} {p : Prom}, invH v st → (∀ p ∈ l, ∀ u ∈ p.votes, lessV v u) → p ∈ l → v ∈ p.votes → goodH v (highestP v.slot st l)
  | [], _, _, _, _, hm, _ => by cases hm
  | q :: l, st, p, h, hu, hm, hv => by
    have e : highestP v.slot st (q :: l) = highestP v.slot (q.votes.foldl (highV v.slot q.src) st) l := rfl
    rw [e]
    rcases List.mem_cons.1 hm with rfl | hm
    · exact highP_good (foldV_hit h (hu p (by simp)) hv) fun x hx => hu x (by simp [hx])
    · exact highP_hit (foldV_inv h (hu q (by simp))) (fun x hx => hu x (by simp [hx])) hm hv
/-- What the quorum's plan has. -/
theorem chosen_ok {v : Vote} {w a : Int} {ps : List Prom} {k : Nat} (hk : k ≤ ps.length) (hb : 0 ≤ v.ballot) (hn : (ps.map Prom.src).Nodup) (hv : ∀ p ∈ ps, ∀ u ∈ p.votes, u.ballot < v.ballot)
    (hm : ∀ j (hj : j < ps.length), j < k → Prom.may (modP v (bitAt w j) ps[j]) = true) (h1 : k < 2 * cntB w k) (h2 : k < 2 * (quoP v w a ps k).length) :
    makeP (quoP v w a ps k) = (planR (quoP v w a ps k), 0) ∧ ((planR (quoP v w a ps k)).done < v.slot →
      v.slot - (planR (quoP v w a ps k)).done ≤ (planR (quoP v w a ps k)).batches.length ∧ (planR (quoP v w a ps k)).batches[(v.slot - (planR (quoP v w a ps k)).done - 1).toNat]? = some v.batch) := by
  rw [quoP_len hk] at h2
  obtain ⟨j, hj, hjw, hja⟩ := meet_of h1 h2
  have hjl : j < ps.length := by omega
  have hmem := quoP_has (v := v) (w := w) hjl hk hj hja
  have hne : quoP v w a ps k ≠ [] := fun e => by rw [e] at hmem; cases hmem
  have hmq : ∀ p ∈ quoP v w a ps k, Prom.may p = true := fun p hp => by
    obtain ⟨i, g1, g2, g3, rfl⟩ := quoP_mem hk hp
    exact hm i g1 g2
  have hnq := quoP_nodup (v := v) (w := w) (a := a) hn hk
  have hOK := order_ok hne hmq hnq
  refine ⟨makeR_told hne hmq hnq, fun hd => ?_⟩
  have hdone : ps[j].done < v.slot := by
    have := hOK.done _ hmem
    rw [modP_src.2] at this
    omega
  have hvm : v ∈ (modP v (bitAt w j) ps[j]).votes := by
    unfold modP
    rw [if_pos (by rw [hjw]; simpa using hdone)]
    exact withP_has
  have hat := hOK.at_lt _ hmem v hvm
  refine ⟨by omega, ?_⟩
  have hall : ∀ p ∈ quoP v w a ps k, ∀ u ∈ p.votes, lessV v u := fun p hp u hu hs => by
    obtain ⟨i, g1, g2, g3, rfl⟩ := quoP_mem hk hp
    unfold modP at hu
    split at hu
    · rcases withP_mem hu with rfl | ⟨q1, q2⟩
      · exact .inr ⟨rfl, rfl⟩
      · exact absurd hs q2
    · exact .inl (hv _ (List.getElem_mem g1) u hu)
  have hg := highP_hit (v := v) (st := initH) (.inl (by simp only [initH]; omega)) hall hmem hvm
  generalize hq : quoP v w a ps k = q at *
  obtain ⟨p0, l0, rfl⟩ : ∃ p0 l0, q = p0 :: l0 := by
    cases q with
    | nil => exact absurd rfl hne
    | cons x y => exact ⟨x, y, rfl⟩
  have hbs : (planR (p0 :: l0)).batches = slotsR (p0 :: l0) ((planR (p0 :: l0)).done + 1) (lastR (planR (p0 :: l0)).done (p0 :: l0) - (planR (p0 :: l0)).done).toNat := rfl
  have hlen := hat
  rw [hbs, slotsR_len] at hlen
  rw [hbs, slotsR_get, if_pos (by omega), show (planR (p0 :: l0)).done + 1 + ((v.slot - (planR (p0 :: l0)).done - 1).toNat : Int) = v.slot by omega, hg.1]
end Go.Proofs.Ythlolabfogklgaa

