/- LeadSlots: what holds of a plan of two made promises, in plain words. -/
import Derived.Test.YtgiempmfpmlgnaaLG0
namespace Go.Proofs.Ytgiempmfpmlgnaa
open Go.Pk
set_option maxRecDepth 100000
set_option linter.unusedSimpArgs false
set_option linter.unusedVariables false
theorem best_all (P : Batch → Prop) (hf : P fillB) {done : Int} : ∀ {l : List Prom} {b : List Vote}, (∀ w ∈ b, P w.batch) → (∀ p ∈ l, ∀ v ∈ p.votes, P v.batch) → ∀ w ∈ bestOf done b l, P w.batch
  | [], b, h, _ => h
  | p :: l, b, h, hv => by
    have hg : ∀ (k : Nat) (b : List Vote), (∀ w ∈ b, P w.batch) → ∀ w ∈ growV b k, P w.batch := fun k => by
      induction k with
      | zero => intro b h; exact h
      | succ k ih => intro b h; exact ih _ (fun w hw => by
          rcases List.mem_append.1 hw with hw | hw
          · exact h w hw
          · rw [List.mem_singleton] at hw; subst hw; exact hf)
    have hs : ∀ (b : List Vote) (v : Vote), (∀ w ∈ b, P w.batch) → P v.batch → ∀ w ∈ stepV done b v, P w.batch := fun b v h hv => by
      unfold stepV
      split
      · exact h
      · unfold layV
        split
        · split
          · intro w hw
            rcases List.mem_or_eq_of_mem_set hw with hw | rfl
            · exact hg _ _ h w hw
            · exact hv
          · exact hg _ _ h
        · exact hg _ _ h
    have h1 : ∀ (vs : List Vote) (b : List Vote), (∀ w ∈ b, P w.batch) → (∀ v ∈ vs, P v.batch) → ∀ w ∈ vs.foldl (stepV done) b, P w.batch := fun vs => by
      induction vs with
      | nil => intro b hb _; exact hb
      | cons v vs ih => intro b hb hvs; exact ih _ (hs b v hb (hvs v (by simp))) fun w hw => hvs w (by simp [hw])
    exact best_all P hf (l := l) (h1 p.votes b h (hv p (by simp))) fun q hq => hv q (by simp [hq])
/-- A batch of small numbers. -/
def BSm (b : Batch) : Prop := 0 ≤ b.view ∧ b.view ≤ 1000 ∧ 0 ≤ b.time ∧ b.time ≤ 255
theorem walk_bd {f : Int} (hf : 0 ≤ f) : ∀ {bs : List Batch} {i : Nat} {t : Tip} {m : Int}, (∀ b ∈ bs, BSm b) → 0 ≤ t.view ∧ t.view ≤ 1000 → 0 ≤ t.slot ∧ t.slot ≤ f + i + 1000 → 0 ≤ m ∧ m ≤ 255 →
    (0 ≤ (walkP f i t m bs).1.view ∧ (walkP f i t m bs).1.view ≤ 1000) ∧ (0 ≤ (walkP f i t m bs).1.slot ∧ (walkP f i t m bs).1.slot ≤ f + i + bs.length + 1000) ∧ 0 ≤ (walkP f i t m bs).2 ∧ (walkP f i t m bs).2 ≤ 255
  | [], i, t, m, _, h1, h2, h3 => by simp only [walkP, List.length_nil]; exact ⟨h1, by omega, h3⟩
  | b :: bs, i, t, m, hb, h1, h2, h3 => by
    have hb0 := hb b (by simp)
    have hbs : ∀ x ∈ bs, BSm x := fun x hx => hb x (by simp [hx])
    rw [walkP]
    split
    · have := walk_bd hf (bs := bs) (i := i + 1) (t := ⟨b.view, f + i⟩) (m := max m b.time) hbs ⟨hb0.1, hb0.2.1⟩ ⟨by simp only; omega, by simp only; omega⟩ ⟨by have := hb0.2.2; omega, by have := hb0.2.2; omega⟩
      simp only [List.length_cons]
      exact ⟨this.1, by have := this.2.1; omega, this.2.2⟩
    · have := walk_bd hf (bs := bs) (i := i + 1) (t := t) (m := m) hbs h1 (by omega) h3
      simp only [List.length_cons]
      exact ⟨this.1, by have := this.2.1; omega, this.2.2⟩
theorem batchB_sm {l : List Int} (h : ∀ x ∈ l, u8 x) : BSm (batchB l) := by
  unfold batchB
  split
  · exact ⟨Int.le_refl _, by decide, Int.le_refl _, by decide⟩
  · have h8 := Nat.mod_lt (l.getD 2 0).toNat (show 0 < 8 by decide)
    have hu := u8_getD h 3
    exact ⟨by simp only; omega, by simp only; omega, hu.1, by have := hu.2; simp only; omega⟩
theorem votesB_sm {d : Int} {l : List NVote} (h : ∀ v ∈ l, v.ok) : ∀ (n s : Nat) (acc : List Vote), (∀ v ∈ acc, BSm v.batch) → ∀ v ∈ votesB d l acc n s, BSm v.batch
  | 0, s, acc, ha => by simpa [votesB] using ha
  | n + 1, s, acc, ha => by
    rw [votesB]
    cases hf : l.find? (voteAt s) with
    | none => exact votesB_sm h n (s + 1) acc ha
    | some v =>
      refine votesB_sm h n (s + 1) _ fun u hu => ?_
      rcases List.mem_append.1 hu with hu | hu
      · exact ha u hu
      · rw [List.mem_singleton] at hu
        subst hu
        exact batchB_sm (h v (List.mem_of_find?_eq_some hf)).2.2.2
theorem led_bd {a b : NTold} (ha : a.ok) (hb : b.ok) (X : Plan) (hX : X = (makeP [promB 0 a, promB 2 b]).1) :
    (0 ≤ X.done ∧ X.done ≤ 7) ∧ (0 ≤ X.after.view ∧ X.after.view ≤ 1000) ∧ (0 ≤ X.after.slot ∧ X.after.slot ≤ 2000) ∧ 0 ≤ X.later ∧ X.later ≤ 255 := by
  subst hX
  have key : ∀ p ∈ [promB 0 a, promB 2 b], (0 ≤ p.done ∧ p.done ≤ 7) ∧ (0 ≤ p.tip.view ∧ p.tip.view ≤ 1000) ∧ (0 ≤ p.tip.slot ∧ p.tip.slot ≤ 1000) ∧ (0 ≤ p.time ∧ p.time ≤ 255) ∧ ∀ v ∈ p.votes, BSm v.batch := by
    have one : ∀ (i : Int) (t : NTold), t.ok → (0 ≤ (promB i t).done ∧ (promB i t).done ≤ 7) ∧ (0 ≤ (promB i t).tip.view ∧ (promB i t).tip.view ≤ 1000) ∧ (0 ≤ (promB i t).tip.slot ∧ (promB i t).tip.slot ≤ 1000) ∧ (0 ≤ (promB i t).time ∧ (promB i t).time ≤ 255) ∧ ∀ v ∈ (promB i t).votes, BSm v.batch := by
      intro i t ht
      have h1 := m8_lt (x := t.done) (m := 8) (by decide)
      have h2 := m8_lt (x := t.view) (m := 4) (by decide)
      have h3 := m8_lt (x := t.slot) (m := 6) (by decide)
      obtain ⟨_, _, _, h4, _, h5⟩ := ht
      exact ⟨⟨h1.1, by simp only [promB]; omega⟩, ⟨h2.1, by simp only [promB]; omega⟩, ⟨h3.1, by simp only [promB]; omega⟩, ⟨h4.1, by have := h4.2; simp only [promB]; omega⟩, votesB_sm h5 9 1 [] (fun v hv => by cases hv)⟩
    intro p hp
    simp only [List.mem_cons, List.not_mem_nil, or_false] at hp
    rcases hp with rfl | rfl
    · exact one 0 a ha
    · exact one 2 b hb
  unfold makeP
  split
  · simp [noPlan]
  split
  · rename_i ht
    obtain ⟨hperm, _⟩ := sortedP_spec [promB 0 a, promB 2 b]
    have key2 : ∀ p ∈ sortedP [promB 0 a, promB 2 b], (0 ≤ p.done ∧ p.done ≤ 7) ∧ (0 ≤ p.tip.view ∧ p.tip.view ≤ 1000) ∧ (0 ≤ p.tip.slot ∧ p.tip.slot ≤ 1000) ∧ (0 ≤ p.time ∧ p.time ≤ 255) ∧ ∀ v ∈ p.votes, BSm v.batch := fun p hp => key p (hperm.mem_iff.1 hp)
    have hsm := planP_small (s := sortedP [promB 0 a, promB 2 b]) fun p hq => (told_of ht).1 p (hperm.mem_iff.1 hq)
    generalize sortedP [promB 0 a, promB 2 b] = s at key2 hsm
    cases s with
    | nil => simp [planP, noPlan]
    | cons p l =>
      simp only [planP] at hsm ⊢
      have hbase := baseP_of (fun b => (0 ≤ b.1 ∧ b.1 ≤ 7) ∧ (0 ≤ b.2.1.view ∧ b.2.1.view ≤ 1000) ∧ (0 ≤ b.2.1.slot ∧ b.2.1.slot ≤ 1000) ∧ (0 ≤ b.2.2 ∧ b.2.2 ≤ 255)) (l := l) (b := (p.done, p.tip, p.time))
        (by have := key2 p (by simp); exact ⟨this.1, this.2.1, this.2.2.1, this.2.2.2.1⟩) (fun q hq => by have := key2 q (by simp [hq]); exact ⟨this.1, this.2.1, this.2.2.1, this.2.2.2.1⟩)
      have hall := best_all BSm ⟨Int.le_refl _, by decide, Int.le_refl _, by decide⟩ (done := (baseP (p.done, p.tip, p.time) l).1) (l := p :: l) (b := []) (fun w hw => by cases hw) fun q hq v hv => (key2 q hq).2.2.2.2 v hv
      generalize baseP (p.done, p.tip, p.time) l = B at hbase hsm hall
      have hbs : ∀ b ∈ (bestOf B.1 [] (p :: l)).map Vote.batch, BSm b := fun b hb => by
        obtain ⟨w, hw, rfl⟩ := List.mem_map.1 hb
        exact hall w hw
      have hfx : fixF (B.1 + 1) = B.1 + 1 := by
        unfold fixF
        rw [if_neg]
        rw [bad_small (by omega) (by omega)]; simp
      have := walk_bd (f := B.1 + 1) (by omega) (i := 0) (t := B.2.1) (m := B.2.2) hbs hbase.2.1 ⟨hbase.2.2.1.1, by omega⟩ hbase.2.2.2
      rw [hfx]
      exact ⟨hbase.1, this.1, ⟨this.2.1.1, by have := hsm.1; omega⟩, this.2.2⟩
  · simp [noPlan]
/-- The votes of a leader, from a slot on. -/
theorem slots_window {v f : Int} {d : Int} {o : Nat} (hd : d = f - 1 + o) : ∀ {bs : List Batch} {i : Nat}, (voteOf v f i bs).filter (slotsF d) = ((voteOf v f i bs).drop (o - i)).take (3 - (i - o))
  | [], i => by simp [voteOf]
  | b :: bs, i => by
    have ih := slots_window hd (v := v) (bs := bs) (i := i + 1)
    rw [voteOf, List.filter_cons, ih]
    by_cases h1 : i < o
    · rw [if_neg (by simp [slotsF]; omega), show o - i = (o - (i + 1)) + 1 by omega, List.drop_succ_cons, show 3 - (i - o) = 3 - (i + 1 - o) by omega]
    · by_cases h2 : i < o + 3
      · rw [if_pos (by simp [slotsF]; omega), show o - i = 0 by omega, show o - (i + 1) = 0 by omega, List.drop_zero, List.drop_zero, show 3 - (i - o) = (3 - (i + 1 - o)) + 1 by omega, List.take_succ_cons]
      · rw [if_neg (by simp [slotsF]; omega), show o - i = 0 by omega, show o - (i + 1) = 0 by omega, show 3 - (i - o) = 0 by omega, show 3 - (i + 1 - o) = 0 by omega]; simp
theorem voteOf_app {v f : Int} : ∀ {bs : List Batch} {i : Nat} {b : Batch}, voteOf v f i (bs ++ [b]) = voteOf v f i bs ++ [⟨f + (i + bs.length : Nat), v, b⟩]
  | [], i, b => rfl
  | c :: bs, i, b => by
    rw [List.cons_append, voteOf, voteOf, voteOf_app, List.cons_append]
    simp only [List.length_cons]
    rw [show i + 1 + bs.length = i + (bs.length + 1) by omega]
theorem voteOf_get {v f : Int} : ∀ {bs : List Batch} {i j : Nat} (hj : j < (voteOf v f i bs).length) (hj' : j < bs.length), (voteOf v f i bs)[j] = ⟨f + (i + j : Nat), v, bs[j]⟩
  | b :: bs, i, 0, _, _ => by simp [voteOf]
  | b :: bs, i, j + 1, hj, hj' => by
    simp only [voteOf, List.getElem_cons_succ]
    rw [voteOf_get (by simpa [voteOf] using hj) (by simpa using hj')]
    rw [show i + 1 + j = i + (j + 1) by omega]
theorem lreqsP_may {ns : List Int} (hu : ∀ x ∈ ns, u8 x) : Batch.may ⟨false, 0, ⟨0, 0⟩, 0, lreqsP ns⟩ = true := by
  have key : ∀ k : Nat, k ≤ 3 → (∀ r ∈ lreqs ns k, Req.may r = true) ∧ ((lreqs ns k).map Req.client).Nodup ∧ ∀ r ∈ lreqs ns k, r.client < k := by
    intro k hk
    induction k with
    | zero => exact ⟨by simp [lreqs], by simp [lreqs], by simp [lreqs]⟩
    | succ k ih =>
      obtain ⟨h1, h2, h3⟩ := ih (by omega)
      have hx := u8_getD hu k
      have hc : (reqP k (ns.getD k 0) (ns.getD k 0) ((ns.getD k 0) / 4) ((ns.getD k 0) / 16)).client = k := by
        simp only [reqP]; omega
      refine ⟨fun r hr => ?_, ?_, fun r hr => ?_⟩
      · rcases List.mem_append.1 hr with hr | hr
        · exact h1 r hr
        · rw [List.mem_singleton] at hr; subst hr; exact reqP_may hx
      · rw [lreqs, List.map_append, List.nodup_append]
        refine ⟨h2, by simp, fun x hx y hy => ?_⟩
        obtain ⟨r, hr, rfl⟩ := List.mem_map.1 hx
        simp only [List.map_cons, List.map_nil, List.mem_singleton] at hy
        subst hy
        rw [hc]
        have := h3 r hr
        omega
      · rcases List.mem_append.1 hr with hr | hr
        · have := h3 r hr; omega
        · rw [List.mem_singleton] at hr; subst hr; rw [hc]; omega
  obtain ⟨h1, h2, _⟩ := key (min ns.length 3) (by omega)
  unfold Batch.may lreqsP
  simp only
  rw [if_neg (by simp), if_neg]
  · exact reqsMay_intro (l := lreqs ns (min ns.length 3)) _ [] rfl h1 h2
  · simp [bad_small, lreqs_len]
    omega
end Go.Proofs.Ytgiempmfpmlgnaa

