/- The plain law: folds that do not mind the order. -/
import Derived.Test.YtgiempmfpmlgnaaGreatP
namespace Go.Proofs.YtgiempmfpmlgnaaGreat
open Go.Pk
set_option linter.unusedSimpArgs false
set_option linter.unusedVariables false
theorem highV_comm {slot a b : Int} (hab : a ≠ b) (s : Batch × Int × Int) (v w : Vote) : highV slot b (highV slot a s v) w = highV slot a (highV slot b s w) v := by
  unfold highV
  by_cases h1 : v.slot = slot ∧ (s.2.1 < v.ballot ∨ (v.ballot = s.2.1 ∧ a < s.2.2))
  · by_cases h2 : w.slot = slot ∧ (s.2.1 < w.ballot ∨ (w.ballot = s.2.1 ∧ b < s.2.2))
    · rw [if_pos h1, if_pos h2]
      simp only
      by_cases h3 : w.slot = slot ∧ (v.ballot < w.ballot ∨ (w.ballot = v.ballot ∧ b < a))
      · rw [if_pos h3, if_neg (by omega)]
      · rw [if_neg h3, if_pos (by omega)]
    · rw [if_pos h1, if_neg h2, if_pos h1]
      simp only
      rw [if_neg (by omega)]
  · by_cases h2 : w.slot = slot ∧ (s.2.1 < w.ballot ∨ (w.ballot = s.2.1 ∧ b < s.2.2))
    · rw [if_neg h1, if_pos h2]
      simp only
      rw [if_neg (by omega)]
    · rw [if_neg h1, if_neg h2, if_neg h1]
theorem highV_fold1 {slot a b : Int} (hab : a ≠ b) : ∀ (ws : List Vote) (s : Batch × Int × Int) (v : Vote), ws.foldl (highV slot b) (highV slot a s v) = highV slot a (ws.foldl (highV slot b) s) v
  | [], _, _ => rfl
  | w :: ws, s, v => by
    rw [List.foldl_cons, List.foldl_cons, highV_comm hab, highV_fold1 hab]
theorem highV_fold {slot a b : Int} (hab : a ≠ b) : ∀ (vs ws : List Vote) (s : Batch × Int × Int), ws.foldl (highV slot b) (vs.foldl (highV slot a) s) = vs.foldl (highV slot a) (ws.foldl (highV slot b) s)
  | [], _, _ => rfl
  | v :: vs, ws, s => by
    rw [List.foldl_cons, List.foldl_cons, highV_fold hab vs ws, highV_fold1 hab]
theorem src_inj {l : List Prom} (hn : (l.map Prom.src).Nodup) {x y : Prom} (hx : x ∈ l) (hy : y ∈ l) (h : x.src = y.src) : x = y := by
  induction l with
  | nil => cases hx
  | cons a l ih =>
    rw [List.map_cons, List.nodup_cons] at hn
    rcases List.mem_cons.1 hx with hx' | hx'
    · rcases List.mem_cons.1 hy with hy' | hy'
      · rw [hx', hy']
      · exact (hn.1 (List.mem_map.2 ⟨y, hy', by rw [← h, hx']⟩)).elim
    · rcases List.mem_cons.1 hy with hy' | hy'
      · exact (hn.1 (List.mem_map.2 ⟨x, hx', by rw [h, hy']⟩)).elim
      · exact ih hn.2 hx' hy'
theorem highestP_perm {l s : List Prom} (hp : l.Perm s) (hn : (l.map Prom.src).Nodup) (slot : Int) (i : Batch × Int × Int) : highestP slot i l = highestP slot i s := by
  unfold highestP
  refine List.Perm.foldl_eq' hp (fun x hx y hy z => ?_) i
  by_cases h : x.src = y.src
  · rw [src_inj hn hx hy h]
  · exact highV_fold h _ _ _
theorem slotsR_perm {l s : List Prom} (hp : l.Perm s) (hn : (l.map Prom.src).Nodup) : ∀ (n : Nat) (first : Int), slotsR l first n = slotsR s first n
  | 0, _ => rfl
  | n + 1, first => by rw [slotsR, slotsR, highestP_perm hp hn, slotsR_perm hp hn]
theorem lastR_perm {l s : List Prom} (hp : l.Perm s) (m : Int) : lastR m l = lastR m s := by
  unfold lastR
  refine List.Perm.foldl_eq' hp (fun x hx y hy z => ?_) m
  cases x.votes.getLast? with
  | none => rfl
  | some v =>
    cases y.votes.getLast? with
    | none => rfl
    | some w => simp only; omega
/-- The best of promises: most is done, and, of those, the least of numbers. -/
def better (b p : Prom) : Prom := if b.done < p.done ∨ (p.done = b.done ∧ p.src < b.src) then p else b
theorem bestR_fold : ∀ (l : List Prom) (b : Nat × Prom) (i : Nat), (bestR b i l).2 = l.foldl better b.2
  | [], _, _ => rfl
  | p :: l, b, i => by
    rw [bestR, bestR_fold, List.foldl_cons]
    congr 1
    unfold better
    split <;> rfl
theorem better_comm {a b : Prom} (hab : a.src ≠ b.src) (s : Prom) : better (better s a) b = better (better s b) a := by
  unfold better
  by_cases h1 : s.done < a.done ∨ (a.done = s.done ∧ a.src < s.src)
  · by_cases h2 : s.done < b.done ∨ (b.done = s.done ∧ b.src < s.src)
    · rw [if_pos h1, if_pos h2]
      by_cases h3 : a.done < b.done ∨ (b.done = a.done ∧ b.src < a.src)
      · rw [if_pos h3, if_neg (by omega)]
      · rw [if_neg h3, if_pos (by omega)]
    · rw [if_pos h1, if_neg h2, if_pos h1, if_neg (by omega)]
  · by_cases h2 : s.done < b.done ∨ (b.done = s.done ∧ b.src < s.src)
    · rw [if_neg h1, if_pos h2, if_neg (by omega)]
    · rw [if_neg h1, if_neg h2, if_neg h1]
/-- The best of a list that is not empty. -/
def bestP : List Prom → Prom
  | [] => ⟨0, 0, ⟨0, 0⟩, 0, []⟩
  | p :: l => l.foldl better p
theorem bestP_swap (a b : Prom) (l : List Prom) (h : a.src ≠ b.src) : bestP (a :: b :: l) = bestP (b :: a :: l) := by
  simp only [bestP, List.foldl_cons]
  congr 1
  unfold better
  by_cases h1 : a.done < b.done ∨ (b.done = a.done ∧ b.src < a.src)
  · rw [if_pos h1, if_neg (by omega)]
  · rw [if_neg h1, if_pos (by omega)]
theorem bestP_perm : ∀ {l s : List Prom}, l.Perm s → (l.map Prom.src).Nodup → bestP l = bestP s := by
  intro l s hp
  induction hp with
  | nil => intro _; rfl
  | cons x hp ih =>
    intro hn
    simp only [bestP]
    rw [List.map_cons, List.nodup_cons] at hn
    refine List.Perm.foldl_eq' hp (fun a ha b hb z => ?_) x
    by_cases h : a.src = b.src
    · rw [src_inj hn.2 ha hb h]
    · exact better_comm h z
  | swap x y l =>
    intro hn
    refine bestP_swap _ _ _ fun h => ?_
    rw [List.map_cons, List.nodup_cons] at hn
    exact hn.1 (by simp [h])
  | trans h1 h2 ih1 ih2 =>
    intro hn
    rw [ih1 hn, ih2 ((h1.map Prom.src).nodup_iff.1 hn)]
theorem planR_eq (l : List Prom) (h : l ≠ []) : planR l =
    let b := bestP l
    let bs := slotsR l (b.done + 1) (lastR b.done l - b.done).toNat
    let w := walkP (fixF (b.done + 1)) 0 b.tip b.time bs
    ⟨b.done, b.tip, b.time, bs, w.1, w.2⟩ := by
  cases l with
  | nil => exact (h rfl).elim
  | cons p l =>
    have e : (bestR (0, p) 1 l).2 = bestP (p :: l) := bestR_fold l (0, p) 1
    unfold planR
    simp only
    rw [e]
theorem planR_perm {l s : List Prom} (hp : l.Perm s) (hn : (l.map Prom.src).Nodup) : planR l = planR s := by
  by_cases h : l = []
  · subst h
    rw [List.nil_perm.1 hp]
  · have h' : s ≠ [] := fun e => h (by subst e; exact List.perm_nil.1 hp)
    rw [planR_eq l h, planR_eq s h', bestP_perm hp hn]
    simp only
    rw [lastR_perm hp, slotsR_perm hp hn]
/-- Of sorted promises the base is the best. -/
theorem baseP_best : ∀ (l : List Prom) (b : Prom), (∀ p ∈ l, b.src ≤ p.src) → Srt l → baseP (b.done, b.tip, b.time) l = ((l.foldl better b).done, (l.foldl better b).tip, (l.foldl better b).time)
  | [], b, _, _ => rfl
  | p :: l, b, hb, hs => by
    have hs' := List.pairwise_cons.1 hs
    have hbp := hb p (by simp)
    rw [baseP, List.foldl_cons, better]
    simp only
    by_cases h : p.done > b.done
    · rw [if_pos h, if_pos (by omega)]
      exact baseP_best l p hs'.1 hs'.2
    · rw [if_neg h, if_neg (by omega)]
      exact baseP_best l b (fun q hq => hb q (by simp [hq])) hs'.2
end Go.Proofs.YtgiempmfpmlgnaaGreat

