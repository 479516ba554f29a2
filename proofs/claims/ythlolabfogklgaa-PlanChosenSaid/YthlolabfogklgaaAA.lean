/- PlanOrder: what is so of promises that numbers make, in plain words: no program in sight. -/
import Derived.Test.YthlolabfogklgaaY
namespace Go.Proofs.Ythlolabfogklgaa
open Go.Pk
set_option linter.unusedSimpArgs false
set_option linter.unusedVariables false
/-! ### They may be -/
theorem nameP_of (k : Nat) : nameP (nameOf k) = true := by
  unfold nameOf
  split <;> decide
theorem mayP_of (a b c : Int) : mayP (cmdP a b c).1 (cmdP a b c).2.1 (cmdP a b c).2.2 = true := by
  have h6 := Nat.mod_lt a.toNat (show 0 < 6 by decide)
  have h7 := Nat.mod_lt b.toNat (show 0 < 7 by decide)
  have hn := nameP_of (c.toNat % 6)
  unfold mayP cmdP
  simp only
  generalize a.toNat % 6 = k at h6 ⊢
  generalize b.toNat % 7 = m at h7 ⊢
  generalize nameOf (c.toNat % 6) = nm at hn ⊢
  have hk : k = 0 ∨ k = 1 ∨ k = 2 ∨ k = 3 ∨ k = 4 ∨ k = 5 := by omega
  rcases hk with rfl | rfl | rfl | rfl | rfl | rfl <;> simp [hn] <;> first | rfl | omega
theorem reqP_may {c q a b d : Int} (hq : u8 q) : Req.may (reqP c q a b d) = true := by
  have h8 := Nat.mod_lt c.toNat (show 0 < 8 by decide)
  have h := mayP_of a b d
  unfold Req.may
  simp only [reqP, h, Bool.and_true, Bool.and_eq_true, decide_eq_true_eq, High]
  have h1 := hq.1
  have h2 := hq.2
  refine ⟨⟨⟨?_, ?_⟩, ?_⟩, ?_⟩
  all_goals exact decide_eq_true (by omega)
theorem reqsMay_intro {l : List Req} : ∀ (rest pre : List Req), l = pre ++ rest → (∀ r ∈ l, Req.may r = true) → (l.map Req.client).Nodup → reqsMay l pre.length rest = true
  | [], _, _, _, _ => rfl
  | r :: rest, pre, hl, hm, hn => by
    have hr : Req.may r = true := hm r (by rw [hl]; simp)
    have ht : l.take pre.length = pre := by rw [hl]; simp
    rw [reqsMay, if_neg]
    · have := reqsMay_intro rest (pre ++ [r]) (by rw [hl]; simp) hm hn
      rwa [List.length_append, List.length_singleton] at this
    · rw [hr, ht]
      simp only [Bool.not_true, Bool.false_or, List.any_eq_true, not_exists, not_and, beq_iff_eq]
      intro o ho he
      rw [hl, List.map_append, List.map_cons, List.nodup_append] at hn
      exact hn.2.2 _ (List.mem_map_of_mem ho) _ (List.mem_cons_self ..) he
theorem reqsB_may {l : List Int} (h : ∀ x ∈ l, u8 x) : ∀ (n i : Nat) (acc : List Req), (∀ r ∈ acc, Req.may r = true) → (acc.map Req.client).Nodup →
    (∀ r ∈ reqsB l acc n i, Req.may r = true) ∧ ((reqsB l acc n i).map Req.client).Nodup
  | 0, i, acc, h1, h2 => ⟨h1, h2⟩
  | n + 1, i, acc, h1, h2 => by
    rw [reqsB]
    split
    · dsimp only
      split
      · exact reqsB_may h n (i + 5) acc h1 h2
      · rename_i hc
        refine reqsB_may h n (i + 5) _ (fun r hr => ?_) ?_
        · rcases List.mem_append.1 hr with hr | hr
          · exact h1 r hr
          · rw [List.mem_singleton] at hr
            subst hr
            exact reqP_may (u8_getD h _)
        · rw [List.map_append, List.nodup_append]
          refine ⟨h2, by simp, fun a ha b hb => ?_⟩
          obtain ⟨o, ho, rfl⟩ := List.mem_map.1 ha
          simp only [List.map_cons, List.map_nil, List.mem_singleton] at hb
          subst hb
          intro he
          exact hc (List.any_eq_true.2 ⟨o, ho, by rw [he]; simp⟩)
    · exact ⟨h1, h2⟩
theorem bad_small {n : Int} (h : 0 ≤ n) (h2 : n < 1000) : bad n = false := by
  unfold bad
  simp only [Bool.or_eq_false_iff, decide_eq_false_iff_not, High]
  omega
theorem batchB_may {l : List Int} (h : ∀ x ∈ l, u8 x) : Batch.may (batchB l) = true := by
  unfold batchB
  split
  · rfl
  · obtain ⟨h1, h2⟩ := reqsB_may h l.length 4 [] (fun r hr => by cases hr) (by simp)
    obtain ⟨h3, _⟩ := reqsB_ok h l.length 4 [] (by decide) (fun r hr => by cases hr)
    have h8 := Nat.mod_lt (l.getD 2 0).toNat (show 0 < 8 by decide)
    have h4 := Nat.mod_lt (l.getD 0 0).toNat (show 0 < 4 by decide)
    have h6 := Nat.mod_lt (l.getD 1 0).toNat (show 0 < 6 by decide)
    have hu := u8_getD h 3
    unfold Batch.may
    simp only
    rw [if_neg (by simp), if_neg]
    · exact reqsMay_intro (l := reqsB l [] l.length 4) _ [] rfl h1 h2
    · simp only [List.any_cons, List.any_nil, bad_small (show (0 : Int) ≤ (((l.getD 2 0).toNat % 8 : Nat) : Int) by omega) (by omega), bad_small hu.1 (by have := hu.2; omega),
        bad_small (show (0 : Int) ≤ (((l.getD 0 0).toNat % 4 : Nat) : Int) by omega) (by omega), bad_small (show (0 : Int) ≤ (((l.getD 1 0).toNat % 6 : Nat) : Int) by omega) (by omega)]
      simp
      omega
theorem votesB_app {d : Int} {l : List NVote} : ∀ (n s : Nat) (acc : List Vote), votesB d l acc n s = acc ++ votesB d l [] n s
  | 0, s, acc => by simp [votesB]
  | n + 1, s, acc => by
    rw [votesB, votesB]
    cases l.find? (voteAt s) with
    | none => simp only; exact votesB_app n (s + 1) acc
    | some v =>
      simp only [List.nil_append]
      rw [votesB_app n (s + 1) (acc ++ [_]), votesB_app n (s + 1) [_], List.append_assoc]
theorem votesB_may {d : Int} {l : List NVote} (hd : 0 ≤ d ∧ d < 8) (h : ∀ v ∈ l, v.ok) : ∀ (n s : Nat) (last : Int), s + n ≤ 10 → last < d + s → votesMay d last (votesB d l [] n s) = true
  | 0, s, last, _, _ => rfl
  | n + 1, s, last, hs, hl => by
    rw [votesB]
    cases hf : l.find? (voteAt s) with
    | none => simp only; exact votesB_may hd h n (s + 1) last (by omega) (by omega)
    | some v =>
      have hv := h v (List.mem_of_find?_eq_some hf)
      have hm := m8_lt (x := v.ballot) (m := 9) (by decide)
      simp only [List.nil_append]
      rw [votesB_app, List.singleton_append, votesMay, if_neg]
      · exact votesB_may hd h n (s + 1) (d + s) (by omega) (by omega)
      · simp only [bad_small (show (0 : Int) ≤ d + s by omega) (by omega), bad_small hm.1 (by have := hm.2; omega), batchB_may hv.2.2.2]
        simp
        omega
theorem promB_may {i : Int} {t : NTold} (hi : 0 ≤ i ∧ i < 7) (ht : t.ok) : Prom.may (promB i t) = true := by
  have h8 := m8_lt (x := t.done) (m := 8) (by decide)
  have h4 := m8_lt (x := t.view) (m := 4) (by decide)
  have h6 := m8_lt (x := t.slot) (m := 6) (by decide)
  obtain ⟨_, _, _, hu, _, hv⟩ := ht
  have hd : 0 ≤ m8 t.done 8 ∧ m8 t.done 8 < 8 := ⟨h8.1, by have := h8.2; omega⟩
  have q1 := votesB_may (d := m8 t.done 8) hd hv 9 1 (m8 t.done 8) (by decide) (by omega)
  obtain ⟨_, q2⟩ := votesB_ok (d := m8 t.done 8) hd hv 9 1 [] (by decide) (fun v hv => by cases hv)
  rw [List.length_nil] at q2
  have e : Prom.may (promB i t) = if (decide (i < 0) || decide (i ≥ 7) || [m8 t.done 8, m8 t.view 4, m8 t.slot 6, t.time].any bad || decide (((votesB (m8 t.done 8) t.votes [] 9 1).length : Int) > 9)) = true then false else votesMay (m8 t.done 8) (m8 t.done 8) (votesB (m8 t.done 8) t.votes [] 9 1) := rfl
  rw [e, if_neg, q1]
  simp only [List.any_cons, List.any_nil, bad_small h8.1 (by have := h8.2; omega), bad_small h4.1 (by have := h4.2; omega), bad_small h6.1 (by have := h6.2; omega), bad_small hu.1 (by have := hu.2; omega)]
  simp
  omega
theorem promsB_src : ∀ {l : List NTold} {i : Nat}, (∀ p ∈ promsB i l, (i : Int) ≤ p.src) ∧ ((promsB i l).map Prom.src).Nodup
  | [], _ => ⟨fun p hp => (by cases hp), (by simp [promsB])⟩
  | t :: l, i => by
    obtain ⟨h1, h2⟩ := promsB_src (l := l) (i := i + 1)
    rw [promsB]
    refine ⟨fun p hp => ?_, ?_⟩
    · rcases List.mem_cons.1 hp with rfl | hp
      · exact Int.le_refl _
      · have := h1 p hp; omega
    · rw [List.map_cons, List.nodup_cons]
      refine ⟨fun hm => ?_, h2⟩
      obtain ⟨p, hp, he⟩ := List.mem_map.1 hm
      have := h1 p hp
      simp only [promB] at he
      omega
theorem promsB_may : ∀ {l : List NTold} {i : Nat}, i + l.length ≤ 7 → (∀ t ∈ l, t.ok) → ∀ p ∈ promsB i l, Prom.may p = true
  | [], _, _, _, p, hp => by cases hp
  | t :: l, i, hi, h, p, hp => by
    rw [promsB] at hp
    rw [List.length_cons] at hi
    rcases List.mem_cons.1 hp with rfl | hp
    · exact promB_may ⟨by omega, by omega⟩ (h t (by simp))
    · exact promsB_may (by omega) (fun t ht => h t (by simp [ht])) p hp
theorem toldMay_intro {l : List Prom} : ∀ (rest pre : List Prom), l = pre ++ rest → (∀ r ∈ l, Prom.may r = true) → (l.map Prom.src).Nodup → toldMay l pre.length rest = true
  | [], _, _, _, _ => rfl
  | r :: rest, pre, hl, hm, hn => by
    have hr : Prom.may r = true := hm r (by rw [hl]; simp)
    have ht : l.take pre.length = pre := by rw [hl]; simp
    rw [toldMay, if_neg]
    · have := toldMay_intro rest (pre ++ [r]) (by rw [hl]; simp) hm hn
      rwa [List.length_append, List.length_singleton] at this
    · rw [hr, ht]
      simp only [Bool.not_true, Bool.false_or, List.any_eq_true, not_exists, not_and, beq_iff_eq]
      intro o ho he
      rw [hl, List.map_append, List.map_cons, List.nodup_append] at hn
      exact hn.2.2 _ (List.mem_map_of_mem ho) _ (List.mem_cons_self ..) he
theorem makeR_told {l : List Prom} (hne : l ≠ []) (hm : ∀ r ∈ l, Prom.may r = true) (hn : (l.map Prom.src).Nodup) : makeP l = (planR l, 0) := by
  rw [← makeR_eq]
  unfold makeR
  rw [if_neg (by simpa using hne), if_pos (show toldMay l 0 l = true from toldMay_intro l [] rfl hm hn)]
/-! ### What is made of them -/
theorem lastR_ge : ∀ {l : List Prom} {m : Int}, (∀ p ∈ l, votesMay p.done p.done p.votes = true) → m ≤ lastR m l ∧ ∀ p ∈ l, ∀ v ∈ p.votes, v.slot ≤ lastR m l
  | [], m, _ => ⟨Int.le_refl _, fun p hp => by cases hp⟩
  | p :: l, m, h => by
    have e : lastR m (p :: l) = lastR (match p.votes.getLast? with | some v => max m v.slot | none => m) l := rfl
    obtain ⟨h1, h2⟩ := lastR_ge (l := l) (m := match p.votes.getLast? with | some v => max m v.slot | none => m) fun q hq => h q (by simp [hq])
    rw [← e] at h1 h2
    have hlast : ∀ v ∈ p.votes, ∃ w, p.votes.getLast? = some w ∧ v.slot ≤ w.slot := by
      have : ∀ (vs : List Vote) (last : Int), votesMay p.done last vs = true → ∀ v ∈ vs, ∃ w, vs.getLast? = some w ∧ v.slot ≤ w.slot := fun vs => by
        induction vs with
        | nil => intro _ _ v hv; cases hv
        | cons x vs ih =>
          intro last hm v hv
          have hgt := votesMay_gt hm
          rw [votesMay] at hm
          split at hm
          · cases hm
          · cases vs with
            | nil =>
              rw [List.mem_singleton] at hv
              subst hv
              exact ⟨v, rfl, Int.le_refl _⟩
            | cons y ys =>
              rw [List.getLast?_cons_cons]
              rcases List.mem_cons.1 hv with rfl | hv
              · obtain ⟨w, hw1, hw2⟩ := ih _ hm y (by simp)
                refine ⟨w, hw1, ?_⟩
                have := votesMay_gt hm y (by simp)
                omega
              · exact ih _ hm v hv
      exact this p.votes p.done (h p (by simp))
    refine ⟨?_, fun q hq v hv => ?_⟩
    · refine Int.le_trans ?_ h1
      cases p.votes.getLast? with
      | none => exact Int.le_refl _
      | some w => simp only; omega
    · rcases List.mem_cons.1 hq with rfl | hq
      · obtain ⟨w, hw1, hw2⟩ := hlast v hv
        rw [hw1] at h1
        simp only at h1
        omega
      · exact h2 q hq v hv
def cntV (slot : Int) (l : List Vote) : Nat := l.countP fun w => w.slot == slot
def cntA (slot : Int) (ps : List Prom) : Nat := ps.foldl (fun n p => n + cntV slot p.votes) 0
theorem highV_not {slot src : Int} {s : Batch × Int × Int} {v : Vote} (h : (v.slot == slot) = false) : highV slot src s v = s := by
  unfold highV
  rw [if_neg]
  simp only [beq_eq_false_iff_ne, ne_eq] at h
  exact fun hc => h hc.1
theorem highV_none {slot src : Int} : ∀ {vs : List Vote} {s : Batch × Int × Int}, cntV slot vs = 0 → vs.foldl (highV slot src) s = s
  | [], _, _ => rfl
  | v :: vs, s, h => by
    unfold cntV at h
    rw [List.countP_cons] at h
    have hv : (v.slot == slot) = false := by
      cases hb : v.slot == slot with
      | false => rfl
      | true => rw [hb] at h; simp at h
    rw [List.foldl_cons, highV_not hv]
    exact highV_none (by unfold cntV; omega)
theorem highV_one {slot src : Int} {v : Vote} (hs : v.slot = slot) (hb : 0 ≤ v.ballot) : ∀ {vs : List Vote}, v ∈ vs → cntV slot vs = 1 → (vs.foldl (highV slot src) initH).1 = v.batch
  | [], hv, _ => by cases hv
  | w :: vs, hv, h => by
    have h0 := h
    unfold cntV at h0
    rw [List.countP_cons] at h0
    rw [List.foldl_cons]
    cases hw : w.slot == slot with
    | true =>
      rw [hw] at h0
      have hz : cntV slot vs = 0 := by unfold cntV; simp at h0 ⊢; exact h0
      have hvw : v = w := by
        rcases List.mem_cons.1 hv with e | hv
        · exact e
        · exfalso
          have : 0 < cntV slot vs := List.countP_pos_iff.2 ⟨v, hv, by rw [hs]; simp⟩
          omega
      subst hvw
      rw [highV_none hz]
      unfold highV
      rw [if_pos ⟨hs, .inl (by simp only [initH]; omega)⟩]
    | false =>
      rw [highV_not hw]
      rw [hw] at h0
      refine highV_one hs hb ?_ (by unfold cntV; simpa using h0)
      rcases List.mem_cons.1 hv with e | hv
      · subst e; rw [hs] at hw; simp at hw
      · exact hv
theorem cntA_from {slot : Int} : ∀ {ps : List Prom} {n : Nat}, ps.foldl (fun n p => n + cntV slot p.votes) n = n + cntA slot ps
  | [], n => rfl
  | p :: ps, n => by
    have e : cntA slot (p :: ps) = ps.foldl (fun n p => n + cntV slot p.votes) (0 + cntV slot p.votes) := rfl
    rw [List.foldl_cons, cntA_from, e, cntA_from]
    omega
theorem cntA_cons {slot : Int} {p : Prom} {ps : List Prom} : cntA slot (p :: ps) = cntV slot p.votes + cntA slot ps := by
  have e : cntA slot (p :: ps) = ps.foldl (fun n p => n + cntV slot p.votes) (0 + cntV slot p.votes) := rfl
  rw [e, cntA_from]
  omega
theorem highP_none {slot : Int} : ∀ {ps : List Prom} {s : Batch × Int × Int}, cntA slot ps = 0 → highestP slot s ps = s
  | [], _, _ => rfl
  | p :: ps, s, h => by
    rw [cntA_cons] at h
    have e : highestP slot s (p :: ps) = highestP slot (p.votes.foldl (highV slot p.src) s) ps := rfl
    rw [e, highV_none (by omega), highP_none (by omega)]
theorem highP_one {slot : Int} {v : Vote} (hs : v.slot = slot) (hb : 0 ≤ v.ballot) : ∀ {ps : List Prom} {p : Prom}, p ∈ ps → v ∈ p.votes → cntA slot ps = 1 → (highestP slot initH ps).1 = v.batch
  | [], _, hp, _, _ => by cases hp
  | q :: ps, p, hp, hv, h => by
    rw [cntA_cons] at h
    have e : highestP slot initH (q :: ps) = highestP slot (q.votes.foldl (highV slot q.src) initH) ps := rfl
    have hpos : ∀ {p : Prom}, v ∈ p.votes → 0 < cntV slot p.votes := fun {p} hv => List.countP_pos_iff.2 ⟨v, hv, by rw [hs]; simp⟩
    rw [e]
    rcases List.mem_cons.1 hp with rfl | hp
    · have h1 := hpos hv
      rw [highP_none (by omega)]
      exact highV_one hs hb hv (by omega)
    · have hge : ∀ {ps : List Prom}, p ∈ ps → 0 < cntA slot ps := fun {ps} hp => by
        induction ps with
        | nil => cases hp
        | cons x ps ih =>
          rw [cntA_cons]
          rcases List.mem_cons.1 hp with rfl | hp
          · have := hpos hv; omega
          · have := ih hp; omega
      have := hge hp
      rw [highV_none (by omega)]
      exact highP_one hs hb hp hv (by omega)
theorem walkP_ge {f : Int} : ∀ {bs : List Batch} {i : Nat} {t : Tip} {m : Int}, m ≤ (walkP f i t m bs).2
  | [], _, _, _ => Int.le_refl _
  | b :: bs, i, t, m => by
    rw [walkP]
    split
    · have := walkP_ge (f := f) (bs := bs) (i := i + 1) (t := ⟨b.view, f + i⟩) (m := max m b.time)
      omega
    · exact walkP_ge
theorem bestR_mem : ∀ {l : List Prom} {b : Nat × Prom} {i : Nat}, (bestR b i l).2 ∈ b.2 :: l
  | [], b, i => by simp [bestR]
  | q :: l, b, i => by
    rw [bestR]
    split
    · have := bestR_mem (l := l) (b := (i, q)) (i := i + 1)
      simp only at this
      exact List.mem_cons_of_mem _ this
    · have := bestR_mem (l := l) (b := b) (i := i + 1)
      rcases List.mem_cons.1 this with h | h
      · rw [h]; exact List.mem_cons_self ..
      · exact List.mem_cons_of_mem _ (List.mem_cons_of_mem _ h)
/-- What PlanOrder looks at. -/
structure OrderOK (ps : List Prom) (pl : Plan) : Prop where
  done : ∀ p ∈ ps, p.done ≤ pl.done
  at_lt : ∀ p ∈ ps, ∀ v ∈ p.votes, v.slot - pl.done - 1 < pl.batches.length
  alone : ∀ p ∈ ps, ∀ v ∈ p.votes, ∀ b, 0 ≤ v.slot - pl.done - 1 → pl.batches[(v.slot - pl.done - 1).toNat]? = some b → b.fill = true → v.batch.fill = false → cntA v.slot ps ≠ 1
  last : pl.time ≤ pl.later
  len : pl.batches.length ≤ 9
  small : ∀ b ∈ pl.batches, b.reqs.length ≤ 3
  dn : 0 ≤ pl.done ∧ pl.done ≤ 2305843009213693952
theorem order_ok {ps : List Prom} (hne : ps ≠ []) (hm : ∀ r ∈ ps, Prom.may r = true) (hn : (ps.map Prom.src).Nodup) : OrderOK ps (planR ps) := by
  have hmk := makeR_told hne hm hn
  obtain ⟨hp, hs⟩ := sortedP_spec ps
  have hsm := planP_small (s := sortedP ps) fun p hq => may_of (hm p (hp.mem_iff.1 hq))
  have hpl : planP (sortedP ps) = planR ps := by
    have : makeP ps = (planP (sortedP ps), 0) := by
      unfold makeP
      rw [if_neg (by simpa using hne), if_pos (show toldMay ps 0 ps = true from toldMay_intro ps [] rfl hm hn)]
    rw [hmk] at this
    injection this with h1 _
    exact h1.symm
  rw [hpl] at hsm
  have hvm : ∀ p ∈ ps, votesMay p.done p.done p.votes = true := fun p hp => (may_of (hm p hp)).may
  obtain ⟨p0, l0, rfl⟩ : ∃ p0 l0, ps = p0 :: l0 := by
    cases ps with
    | nil => exact absurd rfl hne
    | cons a b => exact ⟨a, b, rfl⟩
  obtain ⟨m1, m2⟩ := bestR_max (l := l0) (b := (0, p0)) (i := 1)
  have hd : ∀ p ∈ p0 :: l0, p.done ≤ (planR (p0 :: l0)).done := fun p hp => by
    rcases List.mem_cons.1 hp with rfl | hp
    · exact m1
    · exact m2 p hp
  have hb : (planR (p0 :: l0)).batches = slotsR (p0 :: l0) ((planR (p0 :: l0)).done + 1) (lastR (planR (p0 :: l0)).done (p0 :: l0) - (planR (p0 :: l0)).done).toNat := rfl
  obtain ⟨g1, g2⟩ := lastR_ge (l := p0 :: l0) (m := (planR (p0 :: l0)).done) hvm
  refine ⟨hd, fun p hp v hv => ?_, fun p hp v hv b h0 hbg hf hvf hc => ?_, walkP_ge, hsm.1, hsm.2, (may_of (hm _ (bestR_mem (l := l0) (b := (0, p0)) (i := 1)))).done⟩
  · have := g2 p hp v hv
    rw [hb, slotsR_len]
    omega
  · rw [hb, slotsR_get] at hbg
    split at hbg
    · simp only [Option.some.injEq] at hbg
      have hbl : 0 ≤ v.ballot := by
        have := votesMay_of (Int.le_refl _) (hvm p hp) v hv
        have := bad_false this.2.2.2.1
        omega
      rw [show (planR (p0 :: l0)).done + 1 + ((v.slot - (planR (p0 :: l0)).done - 1).toNat : Int) = v.slot by omega, highP_one rfl hbl hp hv hc] at hbg
      subst hbg
      rw [hvf] at hf
      cases hf
    · cases hbg
end Go.Proofs.Ythlolabfogklgaa

