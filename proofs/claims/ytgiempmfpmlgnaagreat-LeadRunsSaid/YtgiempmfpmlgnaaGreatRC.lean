/- LeadRuns: what the two leaders have in common. -/
import Derived.Test.YtgiempmfpmlgnaaGreatRB
import Derived.Test.YtgiempmfpmlgnaaGreatLG0
namespace Go.Proofs.YtgiempmfpmlgnaaGreat
open Go.Pk
set_option maxRecDepth 100000
set_option linter.unusedSimpArgs false
set_option linter.unusedVariables false
structure RI (i : Nat) (L : LeadS) (f : Int) (bs : List Batch) : Prop where
  n : 0 ≤ L.n ∧ L.n ≤ 7
  hh : HeardOK L.heard
  fb : 0 ≤ f
  fs : f + bs.length ≤ 2305843009213693952 + 10
  bl : bs.length ≤ 9 + i
  br : ∀ b ∈ bs, b.reqs.length ≤ 3
  ph : L.phase = 2 → L.slots = voteOf L.view f 0 bs ∧ L.next = f + bs.length
  np : L.phase ≠ 2 → L.slots = [] ∧ L.next = 0 ∧ L.tip = ⟨0, 0⟩ ∧ L.time = 0 ∧ bs = [] ∧ f = 0
def RM (L : LeadS) (f : Int) (bs : List Batch) : RLead := ⟨L.n, L.phase, L.view, L.heard, f, bs, L.tip, L.time⟩
/-- The two leaders go on alike. -/
def RStep (i : Nat) (L' : LeadS) (M' : RLead) : Prop := ∃ f' bs', RI i L' f' bs' ∧ M' = RM L' f' bs'
theorem RI.mono {i : Nat} {L : LeadS} {f : Int} {bs : List Batch} (h : RI i L f bs) : RI (i + 1) L f bs := ⟨h.n, h.hh, h.fb, h.fs, by have := h.bl; omega, h.br, h.ph, h.np⟩
theorem RI.same {i : Nat} {L : LeadS} {f : Int} {bs : List Batch} (h : RI i L f bs) : RStep (i + 1) L (RM L f bs) := ⟨f, bs, h.mono, rfl⟩
theorem heardNil : HeardOK [] := ⟨Nat.zero_le _, fun q h => by simp at h, List.Pairwise.nil⟩
theorem ri_new {k : Int} (hk : quorumP k ≠ 0) : RI 0 (newL k) 0 [] := by
  have hn : 1 ≤ k ∧ k ≤ 7 := by
    unfold quorumP at hk
    split at hk
    · exact absurd rfl hk
    · rename_i h; simp at h; omega
  exact ⟨by simp only [newL]; omega, heardNil, by decide, by decide, Nat.zero_le _, fun b h => by simp at h, fun h => by simp [newL] at h, fun _ => ⟨rfl, rfl, rfl, rfl, rfl, rfl⟩⟩
theorem ri_stop {i : Nat} {L : LeadS} {f : Int} {bs : List Batch} (h : RI i L f bs) : RStep (i + 1) (stopP L) (stopR (RM L f bs)) :=
  ⟨0, [], ⟨h.n, heardNil, by decide, by decide, Nat.zero_le _, fun b h => by simp at h, fun h => by simp [stopP] at h, fun _ => ⟨rfl, rfl, rfl, rfl, rfl, rfl⟩⟩, rfl⟩
theorem ri_begin {i : Nat} {L : LeadS} {f : Int} {bs : List Batch} (v : Int) (h : RI i L f bs) : RStep (i + 1) (beginP L v).1 (beginR (RM L f bs) v).1 ∧ (beginR (RM L f bs) v).2 = (beginP L v).2 := by
  unfold beginP beginR
  split
  · exact ⟨h.same, rfl⟩
  · exact ⟨⟨0, [], ⟨h.n, heardNil, by decide, by decide, Nat.zero_le _, fun b h => by simp at h, fun h => by simp at h, fun _ => ⟨rfl, rfl, rfl, rfl, rfl, rfl⟩⟩, rfl⟩, rfl⟩
theorem ri_fit {i : Nat} {L : LeadS} {f : Int} {bs : List Batch} (h : RI i L f bs) : L.slots.length ≤ 9 + i ∧ (∀ v ∈ L.slots, voteFit v) ∧ 0 ≤ L.next := by
  have h1 := h.bl
  have h2 := h.fs
  have h3 := h.fb
  by_cases hp : L.phase = 2
  · rw [(h.ph hp).1, (h.ph hp).2, voteOf_len]
    refine ⟨h1, fun w hw => ?_, by omega⟩
    obtain ⟨j, j1, j2, j3, j4, j5⟩ := voteOf_mem hw
    have := h.br _ j5
    exact ⟨by omega, by omega, by omega⟩
  · obtain ⟨e1, e2, _⟩ := h.np hp
    rw [e1, e2]
    exact ⟨Nat.zero_le _, fun v h => by simp at h, Int.le_refl _⟩
theorem ri_next {i : Nat} {L : LeadS} {f : Int} {bs : List Batch} (h : RI i L f bs) : nextR (RM L f bs) = L.next := by
  by_cases hp : L.phase = 2
  · rw [nextR, if_pos (by exact hp), (h.ph hp).2]; rfl
  · rw [nextR, if_neg (by exact hp), (h.np hp).2.1]
theorem ri_slots {i : Nat} {L : LeadS} {f : Int} {bs : List Batch} (d : Int) (h : RI i L f bs) :
    (if (RM L f bs).phase = 2 then (voteOf (RM L f bs).view (RM L f bs).first 0 (RM L f bs).bs).filter (slotsF d) else []) = slotsP L d := by
  by_cases hp : L.phase = 2
  · rw [if_pos (by exact hp), slotsP, if_neg (by simp [hp]), (h.ph hp).1]; rfl
  · rw [if_neg (by exact hp), slotsP, if_pos (by simp [hp])]
theorem voteOf_shift {v f : Int} : ∀ {bs : List Batch} {i : Nat} {k : Nat}, voteOf v f (i + k) bs = voteOf v (f + k) i bs
  | [], _, _ => rfl
  | b :: bs, i, k => by
    rw [voteOf, voteOf, show i + k + 1 = (i + 1) + k by omega, voteOf_shift]
    congr 2
    omega
theorem voteOf_filter {v f d : Int} : ∀ {bs : List Batch} {i k : Nat}, d + 1 - f = (i + k : Nat) → k ≤ bs.length → ((voteOf v f i bs).filter fun v => !decide (v.slot ≤ d)) = voteOf v f (i + k) (bs.drop k)
  | [], i, k, h, hk => by
    have : k = 0 := by simpa using hk
    subst this; rfl
  | b :: bs, i, 0, h, hk => by
    rw [List.drop_zero, Nat.add_zero, List.filter_eq_self]
    intro w hw
    obtain ⟨j, j1, j2, j3, _⟩ := voteOf_mem hw
    simp
    omega
  | b :: bs, i, k + 1, h, hk => by
    rw [voteOf, List.filter_cons, if_neg (by simp; omega), voteOf_filter (i := i + 1) (k := k) (by omega) (by simpa using hk), List.drop_succ_cons]
    congr 1
    omega
theorem voteOf_all {v f d : Int} {bs : List Batch} (h : d < f) : ((voteOf v f 0 bs).filter fun v => !decide (v.slot ≤ d)) = voteOf v f 0 bs := by
  rw [List.filter_eq_self]
  intro w hw
  obtain ⟨j, j1, j2, j3, _⟩ := voteOf_mem hw
  simp
  omega
theorem ri_trim {i : Nat} {L : LeadS} {f : Int} {bs : List Batch} (d : Int) (h : RI i L f bs) : RStep (i + 1) (trimP L d) (trimR (RM L f bs) d) := by
  have hnx := ri_next h
  by_cases hp : L.phase = 2
  · have hph := h.ph hp
    have hp1 : ¬ (RM L f bs).phase ≠ 2 := fun hn => hn hp
    have hp0 : ¬ (L.phase != 2) = true := by simp [hp]
    rw [trimP, if_neg hp0, trimR, if_neg hp1, hnx]
    by_cases hd : d ≥ L.next
    · rw [if_pos (by simpa using hd), if_pos hd]
      exact ri_stop h
    · rw [if_neg (by simpa using hd), if_neg hd]
      by_cases hf : d ≥ f
      · rw [if_pos (by exact hf)]
        obtain ⟨k, hk⟩ : ∃ k, k = (d + 1 - f).toNat := ⟨_, rfl⟩
        have hkl : k ≤ bs.length := by omega
        have hdl : (bs.drop k).length = bs.length - k := List.length_drop ..
        refine ⟨d + 1, bs.drop k, ⟨h.n, h.hh, ?_, ?_, ?_, ?_, ?_, ?_⟩, ?_⟩
        · have := h.fb; omega
        · rw [hdl]; have := h.fs; omega
        · rw [hdl]; have := h.bl; omega
        · intro b hb; exact h.br b (List.mem_of_mem_drop hb)
        · intro _
          refine ⟨?_, ?_⟩
          · simp only
            rw [hph.1, voteOf_filter (k := k) (by omega) hkl, voteOf_shift]
            congr 1
            omega
          · simp only
            rw [hph.2, hdl]; omega
        · intro hn; exact absurd hp hn
        · simp only [RM]
          rw [← hk]
      · rw [if_neg (by exact hf)]
        refine ⟨f, bs, ⟨h.n, h.hh, h.fb, h.fs, by have := h.bl; omega, h.br, ?_, fun hn => absurd hp hn⟩, rfl⟩
        intro _
        refine ⟨?_, hph.2⟩
        simp only
        rw [hph.1, voteOf_all (by omega)]
  · rw [trimP, if_pos (by simp [hp]), trimR, if_pos (by exact hp)]
    exact h.same
theorem voteOf_appR {v f : Int} : ∀ {bs : List Batch} {i : Nat} {b : Batch}, voteOf v f i (bs ++ [b]) = voteOf v f i bs ++ [⟨f + (i + bs.length : Nat), v, b⟩]
  | [], i, b => rfl
  | c :: bs, i, b => by
    rw [List.cons_append, voteOf, voteOf, voteOf_appR, List.cons_append]
    simp only [List.length_cons]
    rw [show i + 1 + bs.length = i + (bs.length + 1) by omega]
theorem insP_cons {p q : Prom} {l : List Prom} : insP p (q :: l) = if q.src < p.src then q :: insP p l else p :: q :: l := by
  unfold insP posP
  by_cases h : q.src < p.src
  · rw [if_pos h, List.takeWhile_cons, if_pos (by simpa using h)]; rfl
  · rw [if_neg h, List.takeWhile_cons, if_neg (by simpa using h)]; rfl
theorem insP_srt {p : Prom} : ∀ {l : List Prom}, (l.Pairwise fun p q => p.src < q.src) → (l.any fun q => q.src == p.src) = false → (insP p l).Pairwise fun p q => p.src < q.src
  | [], _, _ => by simp [insP, posP]
  | q :: l, h, ha => by
    have h' := List.pairwise_cons.1 h
    simp only [List.any_cons, Bool.or_eq_false_iff, beq_eq_false_iff_ne] at ha
    rw [insP_cons]
    split
    · rename_i hlt
      refine List.pairwise_cons.2 ⟨fun x hx => ?_, insP_srt h'.2 ha.2⟩
      rcases insP_mem hx with rfl | hx
      · exact hlt
      · exact h'.1 x hx
    · rename_i hge
      have := ha.1
      refine List.pairwise_cons.2 ⟨fun x hx => ?_, h⟩
      rcases List.mem_cons.1 hx with rfl | hx
      · omega
      · have := h'.1 x hx; omega
theorem srt_len : ∀ {l : List Prom} {a : Int}, (l.Pairwise fun p q => p.src < q.src) → (∀ q ∈ l, a ≤ q.src ∧ q.src < 7) → a ≤ 7 → (l.length : Int) ≤ 7 - a
  | [], a, _, _, h => by simp; omega
  | q :: l, a, h, hb, ha => by
    have h' := List.pairwise_cons.1 h
    have hq := hb q (List.mem_cons_self ..)
    have := srt_len (a := q.src + 1) h'.2 (fun x hx => ⟨by have := h'.1 x hx; omega, (hb x (List.mem_cons_of_mem _ hx)).2⟩) (by omega)
    simp only [List.length_cons]
    omega
theorem heard_ins {p : Prom} {l : List Prom} (h : HeardOK l) (hp : p.ok) (hm : Prom.may p = true) (ha : (l.any fun q => q.src == p.src) = false) : HeardOK (insP p l) := by
  have hs := insP_srt h.srt ha
  have hb : ∀ q ∈ insP p l, Prom.may q = true ∧ q.ok := fun q hq => by
    rcases insP_mem hq with rfl | hq
    · exact ⟨hm, hp⟩
    · exact h.may q hq
  have := srt_len (a := 0) hs (fun q hq => (may_of (hb q hq).1).src) (by decide)
  exact ⟨by omega, hb, hs⟩
theorem ri_add {i : Nat} {L : LeadS} {f : Int} {bs : List Batch} (d t : Int) (rs : List Req) (h : RI i L f bs) :
    RStep (i + 1) (addP L d t rs).1 (addR (RM L f bs) d t rs).1 ∧ (addR (RM L f bs) d t rs).2 = (addP L d t rs).2 := by
  have hnx := ri_next h
  have e0 : (RM L f bs).phase = L.phase := rfl
  unfold addP addR
  rw [hnx, e0]
  by_cases hp : L.phase = 2
  · have hph := h.ph hp
    have hp0 : ¬ (L.phase != 2) = true := by simp [hp]
    rw [if_neg hp0, if_neg hp0]
    by_cases hm : mayAdd d t rs = false
    · rw [if_pos hm, if_pos hm]
      exact ⟨h.same, rfl⟩
    · rw [if_neg hm, if_neg hm]
      by_cases hf : (decide (L.next > d + 3) || decide (L.next > High)) = true
      · rw [if_pos hf, if_pos hf]
        exact ⟨h.same, rfl⟩
      · rw [if_neg hf, if_neg hf]
        have h3 : rs.length ≤ 3 := by
          have : Batch.may ⟨false, 0, ⟨0, 0⟩, 0, rs⟩ = true := by
            unfold mayAdd at hm
            simp at hm
            exact hm.2.2.2.2
          exact batchMay_few this
        refine ⟨⟨f, bs ++ [⟨false, L.view, L.tip, t, rs⟩], ⟨h.n, h.hh, h.fb, ?_, ?_, ?_, ?_, ?_⟩, rfl⟩, rfl⟩
        · have hH : High = 2305843009213693952 := rfl
          simp [hH] at hf
          have := hph.2
          simp only [List.length_append, List.length_singleton]
          omega
        · have := h.bl
          simp only [List.length_append, List.length_singleton]
          omega
        · intro b hb
          rcases List.mem_append.1 hb with hb | hb
          · exact h.br b hb
          · rw [List.mem_singleton] at hb; subst hb; exact h3
        · intro _
          refine ⟨?_, ?_⟩
          · simp only
            rw [hph.1, voteOf_appR, hph.2]
            simp
          · simp only [List.length_append, List.length_singleton]
            rw [hph.2]; omega
        · intro hn; exact absurd hp hn
  · have hp0 : (L.phase != 2) = true := by simp [hp]
    rw [if_pos hp0, if_pos hp0]
    exact ⟨h.same, rfl⟩
theorem ri_hear {i : Nat} {L : LeadS} {f : Int} {bs : List Batch} (p : Prom) (hp : p.ok) (h : RI i L f bs) :
    RStep (i + 1) (hearP L p).1 (hearR (RM L f bs) p).1 ∧ (hearR (RM L f bs) p).2 = (hearP L p).2 := by
  have e0 : (RM L f bs).phase = L.phase := rfl
  have e1 : (RM L f bs).n = L.n := rfl
  have e2 : (RM L f bs).ps = L.heard := rfl
  unfold hearP hearR
  rw [e0, e1, e2, insO_false]
  by_cases hph : L.phase = 1
  · have hp0 : ¬ (L.phase != 1) = true := by simp [hph]
    rw [if_neg hp0, if_neg hp0]
    by_cases hm : (!Prom.may p || decide (p.src ≥ L.n)) = true
    · rw [if_pos hm, if_pos hm]
      exact ⟨h.same, rfl⟩
    · rw [if_neg hm, if_neg hm]
      by_cases ha : (L.heard.any fun q => q.src == p.src) = true
      · rw [if_pos ha, if_pos ha]
        exact ⟨h.same, rfl⟩
      · rw [if_neg ha, if_neg ha]
        simp only
        have hnp := h.np (by omega)
        have hH2 : HeardOK (insP p L.heard) := heard_ins h.hh hp (by simp only [Bool.or_eq_true, Bool.not_eq_true', not_or, Bool.not_eq_false] at hm; exact hm.1) (by simpa using ha)
        by_cases hq : decide (((insP p L.heard).length : Int) < quorumP L.n) = true
        · rw [if_pos hq, if_pos hq]
          refine ⟨⟨0, [], ⟨h.n, hH2, by decide, by decide, Nat.zero_le _, fun b h => by simp at h, fun h2 => ?_, fun _ => ⟨hnp.1, hnp.2.1, hnp.2.2.1, hnp.2.2.2.1, rfl, rfl⟩⟩, ?_⟩, rfl⟩
          · simp only at h2; omega
          · obtain ⟨_, _, _, _, rfl, rfl⟩ := hnp; rfl
        · rw [if_neg hq, if_neg hq]
          have hXd := makeP_done (insP p L.heard)
          refine ⟨⟨(makeP (insP p L.heard)).1.done + 1, (makeP (insP p L.heard)).1.batches, ⟨h.n, hH2, ?_, ?_, ?_, hXd.2.2, fun _ => ⟨?_, ?_⟩, fun h2 => ?_⟩, rfl⟩, rfl⟩
          · omega
          · omega
          · omega
          · rfl
          · rfl
          · exact absurd rfl h2
  · have hp0 : (L.phase != 1) = true := by simp [hph]
    rw [if_pos hp0, if_pos hp0]
    exact ⟨h.same, rfl⟩
end Go.Proofs.YtgiempmfpmlgnaaGreat

