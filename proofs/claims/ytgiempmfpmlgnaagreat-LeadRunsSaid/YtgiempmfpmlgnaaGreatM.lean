/- Contracts: the document's plan, as a whole. -/
import Derived.Test.YtgiempmfpmlgnaaGreatL
namespace Go.Proofs.YtgiempmfpmlgnaaGreat
open Go.Pk
set_option maxRecDepth 100000
set_option linter.unusedSimpArgs false
set_option linter.unusedVariables false
def bestR (b : Nat × Prom) : Nat → List Prom → Nat × Prom
  | _, [] => b
  | i, p :: l => bestR (if b.2.done < p.done ∨ (p.done = b.2.done ∧ p.src < b.2.src) then (i, p) else b) (i + 1) l
def lastR (m : Int) (l : List Prom) : Int := l.foldl (fun m p => match p.votes.getLast? with | some v => max m v.slot | none => m) m
def slotsR (l : List Prom) (first : Int) : Nat → List Batch
  | 0 => []
  | n + 1 => (highestP first (fillB, -1, 0) l).1 :: slotsR l (first + 1) n
def planR (l : List Prom) : Plan :=
  match l with
  | [] => noPlan
  | p :: l' =>
    let b := (bestR (0, p) 1 l').2
    let bs := slotsR l (b.done + 1) (lastR b.done l - b.done).toNat
    let w := walkP (fixF (b.done + 1)) 0 b.tip b.time bs
    ⟨b.done, b.tip, b.time, bs, w.1, w.2⟩
def makeR (l : List Prom) : Plan × Int :=
  if l.length = 0 then (noPlan, 6) else if toldMay l 0 l = true then (planR l, 0) else (noPlan, 1)
abbrev cell2 : Nat × RS := (2, { next := 1, l := [some { e := 0, var := true, fz := false, sz := 0, cells := [di 0, di 0, di 0, di 0, .d (.v (.slice none 0 0)), di 0, di 0, di 0] }, none, none, none, none, none, none, none, none] })
theorem bestR_max : ∀ {l : List Prom} {b : Nat × Prom} {i : Nat}, b.2.done ≤ (bestR b i l).2.done ∧ ∀ p ∈ l, p.done ≤ (bestR b i l).2.done
  | [], b, i => ⟨Int.le_refl _, fun p hp => by cases hp⟩
  | q :: l, b, i => by
    rw [bestR]
    split
    · rename_i h
      obtain ⟨h1, h2⟩ := bestR_max (l := l) (b := (i, q)) (i := i + 1)
      simp only at h1
      refine ⟨by omega, fun p hp => ?_⟩
      rcases List.mem_cons.1 hp with rfl | hp
      · exact h1
      · exact h2 p hp
    · rename_i h
      obtain ⟨h1, h2⟩ := bestR_max (l := l) (b := b) (i := i + 1)
      refine ⟨h1, fun p hp => ?_⟩
      rcases List.mem_cons.1 hp with rfl | hp
      · omega
      · exact h2 p hp
theorem lastR_of {d : Int} : ∀ {l : List Prom} {m : Int}, d ≤ m → m ≤ d + 9 → (∀ p ∈ l, ∀ v ∈ p.votes, v.slot ≤ d + 9) → d ≤ lastR m l ∧ lastR m l ≤ d + 9
  | [], m, h1, h2, _ => ⟨h1, h2⟩
  | p :: l, m, h1, h2, h3 => by
    have e : lastR m (p :: l) = lastR (match p.votes.getLast? with | some v => max m v.slot | none => m) l := rfl
    rw [e]
    have h4 : ∀ q ∈ l, ∀ v ∈ q.votes, v.slot ≤ d + 9 := fun q hq => h3 q (by simp [hq])
    cases hv : p.votes.getLast? with
    | none => exact lastR_of h1 h2 h4
    | some v =>
      have := h3 p (by simp) v (List.mem_of_getLast? hv)
      exact lastR_of (show d ≤ max m v.slot by omega) (show max m v.slot ≤ d + 9 by omega) h4
set_option maxHeartbeats 4000000 in
theorem makePlan_ok (l : List Prom) (hl : l.length < 2 ^ 42) (hok : ∀ p ∈ l, p.ok) : CallOK Tryz.prog 43 [.f (al l.length (promisesE l))] (fun r o => r = [(makeR l).1.rf, .one (.d (iD (makeR l).2))] ∧ o = []) := by
  refine CallOK.nil ?_
  refine callOK_of TOKTy mixed (T := Ty) (n := 171) Tryz.func43 (c := Tryz.f43.body.getD .skip) rfl Tryz.results43 Tryz.ntmps43 Tryz.call43 ?_
  simp only [Tryz.f43, Option.getD]
  repeat' (first | with_reducible refine SeqQ_normal _ _ ?_ | rw [awp_seq] | simp only [pkS, TyB,  implies_true, forall_const, Nat.reduceSub, Nat.reduceEqDiff, Nat.reduceAdd, Nat.reduceMul, Nat.reduceLeDiff, Nat.reduceLT, Nat.reduceBEq, reduceCtorEq] | refine CallRG_no ?_ | refine CondR_of (fun hb => ?_) (fun hb => ?_) | (refine And.intro ?_ ?_; focus ((try with_reducible refine GIm_of ?_); first | (with_reducible rfl) | ((with_reducible first | refine rng_of ?_ | refine ordOK_of ?_ | refine chk_of ?_); kernel_rfl) | (intros; omega) | (intro q p; rw [q, p]; rfl) | (intro q; rw [q]; rfl) | (intro q; simp only [Bool.and_eq_true, decide_eq_true_eq, beq_iff_eq] at q; omega) | (intros; simp_all; done) | (intros; simp [List.range, List.range.loop]; done) | (intros; simp_all [List.range, List.range.loop]; done))) | refine And.intro (fun hg => ?_) (fun hg => ?_) | (with_reducible refine chk_of ?_; kernel_rfl) | fail)
  · rw [makeR, if_pos (by simpa using hb)]
    exact rfs_no
  have h0 : ¬ l.length = 0 := by
    have : ¬ (l.length : Int) = 0 := by simpa using hb
    omega
  have hmk : makeR l = if toldMay l 0 l = true then (planR l, 0) else (noPlan, 1) := by rw [makeR, if_neg h0]
  rw [hmk]
  refine LoopR_fn (τ := Nat) (fun t => ⟨[al l.length (promisesE l), dd, .one (.ptr ⟨2, 0, 0⟩ 0), ai 0, ai t, dd, dd, dd, dd, dd, dd, dd, dd, dd, dd, dd, dd, dd, dd, dd, dd, dd, dd, dd, dd, dd, dd, dd, dd, dd, dd, dd, dd, dd, dd, dd, dd, dd, dd, dd, dd, dd, dd, dd, dd, dd, dd, dd, dd, dd, dd, dd, dd, dd, dd, dd, dd, dd, dd, dd, dd, dd, dd, dd, dd, dd, dd, dd, dd, dd, dd, dd, dd, dd, dd, dd, dd, dd, dd, dd, dd, dd, dd, dd, dd, dd, dd, dd, dd, dd, dd, dd, dd, dd, dd, dd, dd, dd, dd, dd, dd, dd, dd, dd, dd, dd, dd, dd, dd, dd, dd, dd, dd, dd, dd, dd, dd, dd, dd, dd, dd, dd, dd, dd, dd, dd, dd, dd, dd, dd, dd, dd, dd, dd, dd, dd, dd, dd, dd, dd, dd, dd, dd, dd, dd, dd, dd, dd, dd, dd, dd, dd, dd, dd, dd, dd, dd, dd, dd, dd, dd, dd, dd, dd, dd, dd, dd, dd, dd, dd, dd], [cell2]⟩)
    (fun t => t ≤ l.length) (fun t => toldMay l t (l.drop t)) (fun t => l.length - t) 0 (Gh.keep [2] [] ?_ rfl) (Nat.zero_le _) ?_
  · simp only [fgt_dead, fgt_same, fgt_nil, Int.natCast_zero]
  intro i hi0 hF K hK
  simp only [List.drop_zero] at hi0 hF hK ⊢
  repeat (first | with_reducible refine SeqQ_normal _ _ ?_ | with_reducible refine And.imp_right (SeqQ_normal _ _) ?_ | with_reducible refine And.imp_right (And.imp_right (SeqQ_normal _ _)) ?_ | with_reducible refine And.imp_right (And.imp_right (And.imp_right (SeqQ_normal _ _))) ?_ | rw [awp_seq] | simp only [pkS, TyB,  implies_true, forall_const, Nat.reduceSub, Nat.reduceEqDiff, Nat.reduceAdd, Nat.reduceMul, Nat.reduceLeDiff, Nat.reduceLT, Nat.reduceBEq, reduceCtorEq])
  refine CondR_of (fun hlt => ?_) (fun hge => ?_)
  · have hi : i < l.length := by simpa using hlt
    have hat := promises_at hi
    simp only [List.cons_append, List.nil_append] at hat
    have hpo := hok _ (List.getElem_mem hi)
    have hti := hF
    rw [List.drop_eq_getElem_cons hi, toldMay] at hti
    repeat' (first | with_reducible refine SeqQ_normal _ _ ?_ | rw [awp_seq] | simp only [pkS, TyB, promises_len, hat, implies_true, forall_const, Nat.reduceSub, Nat.reduceEqDiff, Nat.reduceAdd, Nat.reduceMul, Nat.reduceLeDiff, Nat.reduceLT, Nat.reduceBEq, reduceCtorEq] | ((try refine CallRG_tt ?_); apply CallR_of; (solve | exact (promMayR_ok _ hpo) | (refine CallOK.le (promMayR_ok _ hpo) ?_; simp [argsLe, aLe, csLe, cLe]))) | (apply CallRG_of; (focus (intro _; (solve | exact (promMayR_ok _ hpo) | (refine CallOK.le (promMayR_ok _ hpo) ?_; simp [argsLe, aLe, csLe, cLe])))); (focus rfl)) | refine CallRG_no ?_ | refine CondR_of (fun hb => ?_) (fun hb => ?_) | (refine And.intro ?_ ?_; focus ((try with_reducible refine GIm_of ?_); first | (with_reducible rfl) | ((with_reducible first | refine rng_of ?_ | refine ordOK_of ?_ | refine chk_of ?_); kernel_rfl) | (intros; omega) | (intro q p; rw [q, p]; rfl) | (intro q; rw [q]; rfl) | (intro q; simp only [Bool.and_eq_true, decide_eq_true_eq, beq_iff_eq] at q; omega) | (intros; simp_all; done) | (intros; simp [List.range, List.range.loop]; done) | (intros; simp_all [List.range, List.range.loop]; done))) | refine And.intro (fun hg => ?_) (fun hg => ?_) | (with_reducible refine chk_of ?_; kernel_rfl) | fail)
    · rw [if_neg (by rw [← hti, if_pos (by simpa using Or.inl hb)]; simp)]
      exact rfs_no
    have hmi : Prom.may l[i] = true := by simpa using hb
    refine LoopR_fn (τ := Nat) (fun t => ⟨[al l.length (promisesE l), dd, .one (.ptr ⟨2, 0, 0⟩ 0), ai 0, ai i, ai t, dd, dd, dd, dd, dd, dd, dd, dd, dd, dd, dd, dd, dd, dd, dd, dd, dd, dd, dd, dd, dd, dd, dd, dd, dd, dd, dd, dd, dd, dd, dd, dd, dd, dd, dd, dd, dd, dd, dd, dd, dd, dd, dd, dd, dd, dd, dd, dd, dd, dd, dd, dd, dd, dd, dd, dd, dd, dd, dd, dd, dd, dd, dd, dd, dd, dd, dd, dd, dd, dd, dd, dd, dd, dd, dd, dd, dd, dd, dd, dd, dd, dd, dd, dd, dd, dd, dd, dd, dd, dd, dd, dd, dd, dd, dd, dd, dd, dd, dd, dd, dd, dd, dd, dd, dd, dd, dd, dd, dd, dd, dd, dd, dd, dd, dd, dd, dd, dd, dd, dd, dd, dd, dd, dd, dd, dd, dd, dd, dd, dd, dd, dd, dd, dd, dd, dd, dd, dd, dd, dd, dd, dd, dd, dd, dd, dd, dd, dd, dd, dd, dd, dd, dd, dd, dd, dd, dd, dd, dd, dd, dd, dd, dd, dd, dd], [cell2]⟩)
      (fun t => t ≤ i) (fun t => ((l.take i).drop t).any (fun o => o.src == l[i].src)) (fun t => i - t) 0 (Gh.keep [2] [] ?_ rfl) (Nat.zero_le _) ?_
    · simp only [fgt_dead, fgt_same, fgt_nil, Int.natCast_zero]
    intro k hk0 hF2 K2 hK2
    simp only [List.drop_zero] at hk0 hF2 hK2 ⊢
    repeat (first | with_reducible refine SeqQ_normal _ _ ?_ | with_reducible refine And.imp_right (SeqQ_normal _ _) ?_ | with_reducible refine And.imp_right (And.imp_right (SeqQ_normal _ _)) ?_ | with_reducible refine And.imp_right (And.imp_right (And.imp_right (SeqQ_normal _ _))) ?_ | rw [awp_seq] | simp only [pkS, TyB,  implies_true, forall_const, Nat.reduceSub, Nat.reduceEqDiff, Nat.reduceAdd, Nat.reduceMul, Nat.reduceLeDiff, Nat.reduceLT, Nat.reduceBEq, reduceCtorEq])
    refine CondR_of (fun hlt2 => ?_) (fun hge2 => ?_)
    · have hk : k < i := by simpa using hlt2
      have hkl : k < l.length := by omega
      have hat2 := promises_at hkl
      simp only [List.cons_append, List.nil_append] at hat2
      have hd : (l.take i).drop k = l[k] :: (l.take i).drop (k + 1) := by
        rw [List.drop_eq_getElem_cons (by rw [List.length_take]; omega)]
        congr 1
        rw [List.getElem_take]
      repeat' (first | with_reducible refine SeqQ_normal _ _ ?_ | rw [awp_seq] | simp only [pkS, TyB, promises_len, hat, hat2, implies_true, forall_const, Nat.reduceSub, Nat.reduceEqDiff, Nat.reduceAdd, Nat.reduceMul, Nat.reduceLeDiff, Nat.reduceLT, Nat.reduceBEq, reduceCtorEq] | refine CallRG_no ?_ | refine CondR_of (fun hb => ?_) (fun hb => ?_) | (refine And.intro ?_ ?_; focus ((try with_reducible refine GIm_of ?_); first | (with_reducible rfl) | ((with_reducible first | refine rng_of ?_ | refine ordOK_of ?_ | refine chk_of ?_); kernel_rfl) | (intros; omega) | (intro q p; rw [q, p]; rfl) | (intro q; rw [q]; rfl) | (intro q; simp only [Bool.and_eq_true, decide_eq_true_eq, beq_iff_eq] at q; omega) | (intros; simp_all; done) | (intros; simp [List.range, List.range.loop]; done) | (intros; simp_all [List.range, List.range.loop]; done))) | refine And.intro (fun hg => ?_) (fun hg => ?_) | (with_reducible refine chk_of ?_; kernel_rfl) | fail)
      · rw [if_neg (by rw [← hti, if_pos (by rw [← hF2, hd, List.any_cons, hb]; simp)]; simp)]
        exact rfs_no
      · refine hK2 _ (k + 1) (Gh.keep [2] [] ?_ rfl) hk (by rw [hd, List.any_cons, hb, Bool.false_or]) (by omega)
        simp only [i64_succ hk (by omega), fgt_dead, fgt_same, fgt_nil]
    · have hk : k = i := by
        have : ¬ (k : Int) < i := by simpa using hge2
        omega
      rw [hk, List.drop_of_length_le (by rw [List.length_take]; omega), List.any_nil] at hF2
      repeat (first | with_reducible refine SeqQ_normal _ _ ?_ | with_reducible refine And.imp_right (SeqQ_normal _ _) ?_ | with_reducible refine And.imp_right (And.imp_right (SeqQ_normal _ _)) ?_ | with_reducible refine And.imp_right (And.imp_right (And.imp_right (SeqQ_normal _ _))) ?_ | rw [awp_seq] | simp only [pkS, TyB,  implies_true, forall_const, Nat.reduceSub, Nat.reduceEqDiff, Nat.reduceAdd, Nat.reduceMul, Nat.reduceLeDiff, Nat.reduceLT, Nat.reduceBEq, reduceCtorEq])
      refine hK _ (i + 1) (Gh.keep [2] [] ?_ rfl) hi (by rw [List.drop_eq_getElem_cons hi, toldMay, if_neg (by rw [← hF2, hmi]; simp)]) (by omega)
      simp only [i64_succ hi (by omega), fgt_dead, fgt_same, fgt_nil]
  have hi : i = l.length := by
    have : ¬ (i : Int) < l.length := by simpa using hge
    omega
  rw [hi, List.drop_length, toldMay] at hF
  have ht := hF.symm
  rw [if_pos ht]
  clear hF hK
  obtain ⟨hmay, hnd, h7⟩ := told_of ht
  obtain ⟨p0, l0, hl0⟩ : ∃ p0 l', l = p0 :: l' := by
    cases l with
    | nil => simp at h0
    | cons a b => exact ⟨a, b, rfl⟩
  have hpl : planR l = let b := (bestR (0, p0) 1 (l.drop 1)).2; let bs := slotsR l (b.done + 1) (lastR b.done l - b.done).toNat; let w := walkP (fixF (b.done + 1)) 0 b.tip b.time bs; ⟨b.done, b.tip, b.time, bs, w.1, w.2⟩ := by rw [hl0]; rfl
  rw [hpl]
  repeat (first | with_reducible refine SeqQ_normal _ _ ?_ | with_reducible refine And.imp_right (SeqQ_normal _ _) ?_ | with_reducible refine And.imp_right (And.imp_right (SeqQ_normal _ _)) ?_ | with_reducible refine And.imp_right (And.imp_right (And.imp_right (SeqQ_normal _ _))) ?_ | rw [awp_seq] | simp only [pkS, TyB,  implies_true, forall_const, Nat.reduceSub, Nat.reduceEqDiff, Nat.reduceAdd, Nat.reduceMul, Nat.reduceLeDiff, Nat.reduceLT, Nat.reduceBEq, reduceCtorEq])
  refine LoopR_fn (τ := Nat × Nat × Prom) (fun t => ⟨[al l.length (promisesE l), dd, .one (.ptr ⟨2, 0, 0⟩ 0), ai 0, dd, dd, ai t.2.1, ai t.1, dd, dd, dd, dd, dd, dd, dd, dd, dd, dd, dd, dd, dd, dd, dd, dd, dd, dd, dd, dd, dd, dd, dd, dd, dd, dd, dd, dd, dd, dd, dd, dd, dd, dd, dd, dd, dd, dd, dd, dd, dd, dd, dd, dd, dd, dd, dd, dd, dd, dd, dd, dd, dd, dd, dd, dd, dd, dd, dd, dd, dd, dd, dd, dd, dd, dd, dd, dd, dd, dd, dd, dd, dd, dd, dd, dd, dd, dd, dd, dd, dd, dd, dd, dd, dd, dd, dd, dd, dd, dd, dd, dd, dd, dd, dd, dd, dd, dd, dd, dd, dd, dd, dd, dd, dd, dd, dd, dd, dd, dd, dd, dd, dd, dd, dd, dd, dd, dd, dd, dd, dd, dd, dd, dd, dd, dd, dd, dd, dd, dd, dd, dd, dd, dd, dd, dd, dd, dd, dd, dd, dd, dd, dd, dd, dd, dd, dd, dd, dd, dd, dd, dd, dd, dd, dd, dd, dd, dd, dd, dd, dd, dd, dd], [cell2]⟩)
    (fun t => t.1 ≤ l.length ∧ 1 ≤ t.1 ∧ t.2.1 < l.length ∧ l[t.2.1]? = some t.2.2) (fun t => bestR t.2 t.1 (l.drop t.1)) (fun t => l.length - t.1) (1, 0, p0) (Gh.keep [2] [] ?_ rfl) ⟨by simp only; omega, Nat.le_refl _, by simp only; omega, by rw [hl0]; rfl⟩ ?_
  · simp only [fgt_dead, fgt_same, fgt_nil, Int.natCast_zero, show ((1 : Nat) : Int) = 1 from rfl]
  intro ⟨i, b, pb⟩ ⟨hi0, hi1, hbl, hbe⟩ hF K hK
  simp only at hi0 hi1 hbl hbe hF hK ⊢
  repeat (first | with_reducible refine SeqQ_normal _ _ ?_ | with_reducible refine And.imp_right (SeqQ_normal _ _) ?_ | with_reducible refine And.imp_right (And.imp_right (SeqQ_normal _ _)) ?_ | with_reducible refine And.imp_right (And.imp_right (And.imp_right (SeqQ_normal _ _))) ?_ | rw [awp_seq] | simp only [pkS, TyB,  implies_true, forall_const, Nat.reduceSub, Nat.reduceEqDiff, Nat.reduceAdd, Nat.reduceMul, Nat.reduceLeDiff, Nat.reduceLT, Nat.reduceBEq, reduceCtorEq])
  refine CondR_of (fun hlt => ?_) (fun hge => ?_)
  · have hi : i < l.length := by simpa using hlt
    have hat := promises_at hi
    have hat2 := promises_at hbl
    rw [show l[b] = pb from by rw [List.getElem?_eq_getElem hbl] at hbe; injection hbe] at hat2
    simp only [List.cons_append, List.nil_append] at hat hat2
    repeat' (first | with_reducible refine SeqQ_normal _ _ ?_ | rw [awp_seq] | simp only [pkS, TyB, promises_len, hat, hat2, implies_true, forall_const, Nat.reduceSub, Nat.reduceEqDiff, Nat.reduceAdd, Nat.reduceMul, Nat.reduceLeDiff, Nat.reduceLT, Nat.reduceBEq, reduceCtorEq] | refine CallRG_no ?_ | refine CondR_of (fun hb => ?_) (fun hb => ?_) | (refine And.intro ?_ ?_; focus ((try with_reducible refine GIm_of ?_); first | (with_reducible rfl) | ((with_reducible first | refine rng_of ?_ | refine ordOK_of ?_ | refine chk_of ?_); kernel_rfl) | (intros; omega) | (intro q p; rw [q, p]; rfl) | (intro q; rw [q]; rfl) | (intro q; simp only [Bool.and_eq_true, decide_eq_true_eq, beq_iff_eq] at q; omega) | (intros; simp_all; done) | (intros; simp [List.range, List.range.loop]; done) | (intros; simp_all [List.range, List.range.loop]; done))) | refine And.intro (fun hg => ?_) (fun hg => ?_) | (with_reducible refine chk_of ?_; kernel_rfl) | fail)
    · have hc0 : pb.done < l[i].done ∨ (l[i].done = pb.done ∧ l[i].src < pb.src) := by simpa using hb
      refine hK _ (i + 1, i, l[i]) (Gh.keep [2] [] ?_ rfl) ⟨hi, by simp only; omega, hi, List.getElem?_eq_getElem hi⟩ (by simp only [List.drop_eq_getElem_cons hi, bestR]; rw [if_pos hc0]) (by simp only; omega)
      simp only [i64_succ hi (by omega), fgt_dead, fgt_same, fgt_nil]
    · have hc0 : ¬ (pb.done < l[i].done ∨ (l[i].done = pb.done ∧ l[i].src < pb.src)) := by
        intro h
        have : (decide (l[i].done > pb.done) || l[i].done == pb.done && decide (l[i].src < pb.src)) = true := by simpa using h
        rw [this] at hb
        cases hb
      refine hK _ (i + 1, b, pb) (Gh.keep [2] [] ?_ rfl) ⟨hi, by simp only; omega, hbl, hbe⟩ (by simp only [List.drop_eq_getElem_cons hi, bestR]; rw [if_neg hc0]) (by simp only; omega)
      simp only [i64_succ hi (by omega), fgt_dead, fgt_same, fgt_nil]
  have hi : i = l.length := by
    have : ¬ (i : Int) < l.length := by simpa using hge
    omega
  rw [hi, List.drop_length, bestR] at hF
  rw [← hF]
  have hbm : ∀ p ∈ l, p.done ≤ pb.done := by
    have := bestR_max (l := l.drop 1) (b := (0, p0)) (i := 1)
    rw [← hF] at this
    intro p hp
    rw [hl0] at hp this
    rcases List.mem_cons.1 hp with rfl | hp
    · exact this.1
    · exact this.2 p hp
  clear hF hK hmk hpl hnd
  have hat2 := promises_at hbl
  have hbe' : l[b] = pb := by rw [List.getElem?_eq_getElem hbl] at hbe; injection hbe
  have hpb : MayP pb := hbe' ▸ hmay _ (List.getElem_mem hbl)
  rw [hbe'] at hat2
  simp only [List.cons_append, List.nil_append] at hat2
  repeat' (first | with_reducible refine SeqQ_normal _ _ ?_ | rw [awp_seq] | simp only [pkS, TyB, promises_len, hat2, implies_true, forall_const, Nat.reduceSub, Nat.reduceEqDiff, Nat.reduceAdd, Nat.reduceMul, Nat.reduceLeDiff, Nat.reduceLT, Nat.reduceBEq, reduceCtorEq] | refine CallRG_no ?_ | refine CondR_of (fun hb => ?_) (fun hb => ?_) | (refine And.intro ?_ ?_; focus ((try with_reducible refine GIm_of ?_); first | (with_reducible rfl) | ((with_reducible first | refine rng_of ?_ | refine ordOK_of ?_ | refine chk_of ?_); kernel_rfl) | (intros; omega) | (intro q p; rw [q, p]; rfl) | (intro q; rw [q]; rfl) | (intro q; simp only [Bool.and_eq_true, decide_eq_true_eq, beq_iff_eq] at q; omega) | (intros; simp_all; done) | (intros; simp [List.range, List.range.loop]; done) | (intros; simp_all [List.range, List.range.loop]; done))) | refine And.intro (fun hg => ?_) (fun hg => ?_) | (with_reducible refine chk_of ?_; kernel_rfl) | fail)
  refine LoopR_fn (τ := Nat × Int) (fun t => ⟨[al l.length (promisesE l), dd, .one (.ptr ⟨2, 0, 0⟩ 0), ai 0, dd, dd, dd, dd, .one (.ptr ⟨8, 0, 0⟩ 0), ai t.2, ai t.1, dd, dd, dd, dd, dd, dd, dd, dd, dd, dd, dd, dd, dd, dd, dd, dd, dd, dd, dd, dd, dd, dd, dd, dd, dd, dd, dd, dd, dd, dd, dd, dd, dd, dd, dd, dd, dd, dd, dd, dd, dd, dd, dd, dd, dd, dd, dd, dd, dd, dd, dd, dd, dd, dd, dd, dd, dd, dd, dd, dd, dd, dd, dd, dd, dd, dd, dd, dd, dd, dd, dd, dd, dd, dd, dd, dd, dd, dd, dd, dd, dd, dd, dd, dd, dd, dd, dd, dd, dd, dd, dd, dd, dd, dd, dd, dd, dd, dd, dd, dd, dd, dd, dd, dd, dd, dd, dd, dd, dd, dd, dd, dd, dd, dd, dd, dd, dd, dd, dd, dd, dd, dd, dd, dd, dd, dd, dd, dd, dd, dd, dd, dd, dd, dd, dd, dd, dd, dd, dd, dd, dd, dd, dd, dd, dd, dd, dd, dd, dd, dd, dd, dd, dd, dd, dd, dd, dd, dd, dd, dd], [cell2, (8, { next := 9, l := [some { e := 0, var := true, fz := false, sz := 0, cells := [di pb.done, di pb.tip.view, di pb.tip.slot, di pb.time, .d (.v (.slice none 0 0)), di 0, di 0, di 0] }, none, none, none, none, none, none, none, none] })]⟩)
    (fun t => t.1 ≤ l.length) (fun t => lastR t.2 (l.drop t.1)) (fun t => l.length - t.1) (0, pb.done) (Gh.keep [2, 8] [] ?_ rfl) (Nat.zero_le _) ?_
  · simp only [fgt_dead, fgt_same, fgt_nil, Int.natCast_zero]
  intro ⟨i, m⟩ hi0 hF K hK
  simp only at hi0 hF hK ⊢
  repeat (first | with_reducible refine SeqQ_normal _ _ ?_ | with_reducible refine And.imp_right (SeqQ_normal _ _) ?_ | with_reducible refine And.imp_right (And.imp_right (SeqQ_normal _ _)) ?_ | with_reducible refine And.imp_right (And.imp_right (And.imp_right (SeqQ_normal _ _))) ?_ | rw [awp_seq] | simp only [pkS, TyB,  implies_true, forall_const, Nat.reduceSub, Nat.reduceEqDiff, Nat.reduceAdd, Nat.reduceMul, Nat.reduceLeDiff, Nat.reduceLT, Nat.reduceBEq, reduceCtorEq])
  refine CondR_of (fun hlt => ?_) (fun hge => ?_)
  · have hi : i < l.length := by simpa using hlt
    have hat := promises_at hi
    simp only [List.cons_append, List.nil_append] at hat
    have hmi := hmay _ (List.getElem_mem hi)
    repeat' (first | with_reducible refine SeqQ_normal _ _ ?_ | rw [awp_seq] | simp only [pkS, TyB, promises_len, hat, implies_true, forall_const, Nat.reduceSub, Nat.reduceEqDiff, Nat.reduceAdd, Nat.reduceMul, Nat.reduceLeDiff, Nat.reduceLT, Nat.reduceBEq, reduceCtorEq] | refine CallRG_no ?_ | refine CondR_of (fun hb => ?_) (fun hb => ?_) | (refine And.intro ?_ ?_; focus ((try with_reducible refine GIm_of ?_); first | (with_reducible rfl) | ((with_reducible first | refine rng_of ?_ | refine ordOK_of ?_ | refine chk_of ?_); kernel_rfl) | (intros; omega) | (intro q p; rw [q, p]; rfl) | (intro q; rw [q]; rfl) | (intro q; simp only [Bool.and_eq_true, decide_eq_true_eq, beq_iff_eq] at q; omega) | (intros; simp_all; done) | (intros; simp [List.range, List.range.loop]; done) | (intros; simp_all [List.range, List.range.loop]; done))) | refine And.intro (fun hg => ?_) (fun hg => ?_) | (with_reducible refine chk_of ?_; kernel_rfl) | fail)
    · have hv0 : 0 < l[i].votes.length := by simpa using hb
      have hvl := hmi.len
      have hv1 : l[i].votes.length - 1 < l[i].votes.length := by omega
      have hw : IntKind.i64.wrap ((l[i].votes.length : Int) - 1) = ((l[i].votes.length - 1 : Nat) : Int) := by rw [wrap64 (by omega) (by omega)]; omega
      have hat3 := votes_at hv1
      simp only [List.cons_append, List.nil_append] at hat3
      repeat' (first | with_reducible refine SeqQ_normal _ _ ?_ | rw [awp_seq] | simp only [pkS, TyB, promises_len, votes_len, hat, hw, hat3, implies_true, forall_const, Nat.reduceSub, Nat.reduceEqDiff, Nat.reduceAdd, Nat.reduceMul, Nat.reduceLeDiff, Nat.reduceLT, Nat.reduceBEq, reduceCtorEq] | refine CallRG_no ?_ | refine CondR_of (fun hb => ?_) (fun hb => ?_) | (refine And.intro ?_ ?_; focus ((try with_reducible refine GIm_of ?_); first | (with_reducible rfl) | ((with_reducible first | refine rng_of ?_ | refine ordOK_of ?_ | refine chk_of ?_); kernel_rfl) | (intros; omega) | (intro q p; rw [q, p]; rfl) | (intro q; rw [q]; rfl) | (intro q; simp only [Bool.and_eq_true, decide_eq_true_eq, beq_iff_eq] at q; omega) | (intros; simp_all; done) | (intros; simp [List.range, List.range.loop]; done) | (intros; simp_all [List.range, List.range.loop]; done))) | refine And.intro (fun hg => ?_) (fun hg => ?_) | (with_reducible refine chk_of ?_; kernel_rfl) | fail)
      refine hK _ (i + 1, max m l[i].votes[l[i].votes.length - 1].slot) (Gh.keep [2, 8] [] ?_ rfl) hi ?_ (by simp only; omega)
      · simp only [i64_succ hi (by omega), fgt_dead, fgt_same, fgt_nil]
      · simp only [List.drop_eq_getElem_cons hi, lastR, List.foldl_cons]
        rw [List.getLast?_eq_getElem?, List.getElem?_eq_getElem hv1]
    · have hv0 : l[i].votes = [] := by
        have : ¬ 0 < l[i].votes.length := by simpa using hb
        exact List.eq_nil_of_length_eq_zero (by omega)
      refine hK _ (i + 1, m) (Gh.keep [2, 8] [] ?_ rfl) hi ?_ (by simp only; omega)
      · simp only [i64_succ hi (by omega), fgt_dead, fgt_same, fgt_nil]
      · simp only [List.drop_eq_getElem_cons hi, lastR, List.foldl_cons]
        rw [hv0]
        rfl
  have hi : i = l.length := by
    have : ¬ (i : Int) < l.length := by simpa using hge
    omega
  rw [hi, List.drop_length, List.drop_zero] at hF
  have hvs : ∀ p ∈ l, ∀ v ∈ p.votes, v.slot ≤ pb.done + 9 := fun p hp v hv => by
    have h1 := (hmay p hp).votes v hv
    have h2 := hbm p hp
    omega
  have hm := lastR_of (d := pb.done) (l := l) (m := pb.done) (Int.le_refl _) (by omega) hvs
  have hF : m = lastR pb.done l := hF
  rw [← hF] at hm ⊢
  have hd0 := hpb.done
  have hw0 : IntKind.i64.wrap (pb.done + 1) = pb.done + 1 := wrap64 (by omega) (by omega)
  clear hF hK
  repeat (first | with_reducible refine SeqQ_normal _ _ ?_ | with_reducible refine And.imp_right (SeqQ_normal _ _) ?_ | with_reducible refine And.imp_right (And.imp_right (SeqQ_normal _ _)) ?_ | with_reducible refine And.imp_right (And.imp_right (And.imp_right (SeqQ_normal _ _))) ?_ | rw [awp_seq] | simp only [pkS, TyB, hw0, implies_true, forall_const, Nat.reduceSub, Nat.reduceEqDiff, Nat.reduceAdd, Nat.reduceMul, Nat.reduceLeDiff, Nat.reduceLT, Nat.reduceBEq, reduceCtorEq])
  refine LoopR_fn (τ := Nat × List Batch × Nat × Nat × Nat × Nat) (fun t => match t.1 with
    | 0 => ⟨[al l.length (promisesE l), dd, .one (.ptr ⟨2, 0, 0⟩ 0), ai 0, dd, dd, dd, dd, .one (.ptr ⟨8, 0, 0⟩ 0), ai m, dd, dd, ai (pb.done + 1), dd, dd, dd, dd, dd, dd, dd, dd, dd, dd, dd, dd, dd, dd, dd, dd, dd, dd, dd, dd, dd, dd, dd, dd, dd, dd, dd, dd, dd, dd, dd, dd, dd, dd, dd, dd, dd, dd, dd, dd, dd, dd, dd, dd, dd, dd, dd, dd, dd, dd, dd, dd, dd, dd, dd, dd, dd, dd, dd, dd, dd, dd, dd, dd, dd, dd, dd, dd, dd, dd, dd, dd, dd, dd, dd, dd, dd, dd, dd, dd, dd, dd, dd, dd, dd, dd, dd, dd, dd, dd, dd, dd, dd, dd, dd, dd, dd, dd, dd, dd, dd, dd, dd, dd, dd, dd, dd, dd, dd, dd, dd, dd, dd, dd, dd, dd, dd, dd, dd, dd, dd, dd, dd, dd, dd, dd, dd, dd, dd, dd, dd, dd, dd, dd, dd, dd, dd, dd, dd, dd, dd, dd, dd, dd, dd, dd, dd, dd, dd, dd, dd, dd, dd, dd, dd, dd, dd, dd], [cell2, (8, { next := 9, l := [some { e := 0, var := true, fz := false, sz := 0, cells := [di pb.done, di pb.tip.view, di pb.tip.slot, di pb.time, .d (.v (.slice none 0 0)), di 0, di 0, di 0] }, none, none, none, none, none, none, none, none] })]⟩
    | n + 1 => ⟨[al l.length (promisesE l), dd, .one (.ptr ⟨2, 0, 0⟩ 0), ai 0, dd, dd, dd, dd, .one (.ptr ⟨8, 0, 0⟩ 0), ai m, dd, dd, ai (pb.done + 1 + ((n + 1 : Nat) : Int)), dd, dd, dd, dd, dd, dd, dd, dd, dd, dd, dd, dd, dd, dd, dd, dd, dd, dd, dd, dd, dd, dd, dd, dd, dd, dd, dd, dd, dd, dd, dd, dd, dd, dd, dd, dd, dd, dd, dd, dd, dd, dd, dd, dd, dd, dd, dd, dd, dd, dd, dd, dd, dd, dd, dd, dd, dd, dd, dd, dd, dd, dd, dd, dd, dd, dd, dd, dd, dd, dd, dd, dd, dd, dd, dd, dd, dd, dd, dd, dd, dd, dd, dd, dd, dd, dd, dd, dd, dd, dd, dd, dd, dd, dd, dd, dd, dd, dd, dd, dd, dd, dd, dd, dd, dd, dd, dd, dd, dd, dd, dd, dd, dd, dd, dd, dd, dd, dd, dd, dd, dd, dd, dd, dd, dd, dd, dd, dd, dd, dd, dd, dd, dd, dd, dd, dd, dd, dd, dd, dd, dd, dd, dd, dd, dd, dd, dd, dd, dd, dd, dd, dd, dd, dd, dd, dd, dd, dd], [cell2, (8, { next := t.2.2.1, l := [some { e := 0, var := true, fz := false, sz := 0, cells := [di pb.done, di pb.tip.view, di pb.tip.slot, di pb.time, .own ⟨8, 5, t.2.2.2.1⟩ 0 t.2.1.length, di 0, di 0, di 0] }, none, none, none, none, some { e := t.2.2.2.1, var := false, fz := false, sz := 6, cells := (batchesE t.2.1).map C.d }, none, none, none] }), (150, ⟨t.2.2.2.2.1, []⟩), (151, ⟨t.2.2.2.2.2, []⟩)]⟩)
    (fun t => t.1 ≤ (m - pb.done).toNat ∧ t.2.1.length = t.1) (fun t => t.2.1 ++ slotsR l (pb.done + 1 + t.1) ((m - pb.done).toNat - t.1)) (fun t => (m - pb.done).toNat - t.1) (0, [], 0, 0, 0, 0) (Gh.keep [2, 8] [] ?_ rfl) ⟨Nat.zero_le _, rfl⟩ ?_
  · simp only [fgt_dead, fgt_same, fgt_nil, Int.natCast_zero]
  intro ⟨n, bs, n8, e8, e150, e151⟩ ⟨hn0, hbl0⟩ hF K hK
  simp only at hn0 hbl0 hF hK ⊢
  cases n with
  | zero =>
    have hbs : bs = [] := List.eq_nil_of_length_eq_zero hbl0
    subst hbs
    simp only
    repeat (first | with_reducible refine SeqQ_normal _ _ ?_ | with_reducible refine And.imp_right (SeqQ_normal _ _) ?_ | with_reducible refine And.imp_right (And.imp_right (SeqQ_normal _ _)) ?_ | with_reducible refine And.imp_right (And.imp_right (And.imp_right (SeqQ_normal _ _))) ?_ | rw [awp_seq] | simp only [pkS, TyB,  implies_true, forall_const, Nat.reduceSub, Nat.reduceEqDiff, Nat.reduceAdd, Nat.reduceMul, Nat.reduceLeDiff, Nat.reduceLT, Nat.reduceBEq, reduceCtorEq])
    refine CondR_of (fun hlt => ?_) (fun hge => ?_)
    · repeat' (first | with_reducible refine SeqQ_normal _ _ ?_ | rw [awp_seq] | simp only [pkS, TyB,  implies_true, forall_const, Nat.reduceSub, Nat.reduceEqDiff, Nat.reduceAdd, Nat.reduceMul, Nat.reduceLeDiff, Nat.reduceLT, Nat.reduceBEq, reduceCtorEq] | ((try refine CallRG_tt ?_); apply CallR_of; (solve | exact (highest_ok l h7 (fun p hp => (hmay p hp).len) (pb.done + 1)) | (refine CallOK.le (highest_ok l h7 (fun p hp => (hmay p hp).len) (pb.done + 1)) ?_; simp [argsLe, aLe, csLe, cLe]))) | (apply CallRG_of; (focus (intro _; (solve | exact (highest_ok l h7 (fun p hp => (hmay p hp).len) (pb.done + 1)) | (refine CallOK.le (highest_ok l h7 (fun p hp => (hmay p hp).len) (pb.done + 1)) ?_; simp [argsLe, aLe, csLe, cLe])))); (focus rfl)) | refine CallRG_no ?_ | refine CondR_of (fun hb => ?_) (fun hb => ?_) | (refine And.intro ?_ ?_; focus ((try with_reducible refine GIm_of ?_); first | (with_reducible rfl) | ((with_reducible first | refine rng_of ?_ | refine ordOK_of ?_ | refine chk_of ?_); kernel_rfl) | (intros; omega) | (intro q p; rw [q, p]; rfl) | (intro q; rw [q]; rfl) | (intro q; simp only [Bool.and_eq_true, decide_eq_true_eq, beq_iff_eq] at q; omega) | (intros; simp_all; done) | (intros; simp [List.range, List.range.loop]; done) | (intros; simp_all [List.range, List.range.loop]; done))) | refine And.intro (fun hg => ?_) (fun hg => ?_) | (with_reducible refine chk_of ?_; kernel_rfl) | fail)
      simp only [pkS, TyB, sub1_6, implies_true, forall_const, Nat.reduceSub, Nat.reduceEqDiff, Nat.reduceAdd, Nat.reduceMul, Nat.reduceLeDiff, Nat.reduceLT, Nat.reduceBEq, reduceCtorEq]
      repeat' (first | with_reducible refine SeqQ_normal _ _ ?_ | rw [awp_seq] | simp only [pkS, TyB, sub1_6, implies_true, forall_const, Nat.reduceSub, Nat.reduceEqDiff, Nat.reduceAdd, Nat.reduceMul, Nat.reduceLeDiff, Nat.reduceLT, Nat.reduceBEq, reduceCtorEq] | refine CallRG_no ?_ | refine CondR_of (fun hb => ?_) (fun hb => ?_) | (refine And.intro ?_ ?_; focus ((try with_reducible refine GIm_of ?_); first | (with_reducible rfl) | ((with_reducible first | refine rng_of ?_ | refine ordOK_of ?_ | refine chk_of ?_); kernel_rfl) | (intros; omega) | (intro q p; rw [q, p]; rfl) | (intro q; rw [q]; rfl) | (intro q; simp only [Bool.and_eq_true, decide_eq_true_eq, beq_iff_eq] at q; omega) | (intros; simp_all; done) | (intros; simp [List.range, List.range.loop]; done) | (intros; simp_all [List.range, List.range.loop]; done))) | refine And.intro (fun hg => ?_) (fun hg => ?_) | (with_reducible refine chk_of ?_; kernel_rfl) | fail)
      have hR : (m - pb.done).toNat = (m - pb.done).toNat - 1 + 1 := by
        have : pb.done + 1 ≤ m := by simpa using hlt
        omega
      refine hK _ (1, [(highestP (pb.done + 1) (fillB, -1, 0) l).1], _, _, _, _) (Gh.keep [2, 8] [] ?_ rfl) ⟨by simp only; omega, rfl⟩ ?_ (by simp only; omega)
      · simp only [show IntKind.i64.wrap (pb.done + 1 + 1) = pb.done + 1 + ((0 + 1 : Nat) : Int) from by rw [wrap64 (by omega) (by omega)]; omega, List.length_singleton, fgt_dead, fgt_same, fgt_nil]
      · simp only [List.nil_append]
        rw [Nat.sub_zero, hR, slotsR]
        simp
    · have hR : (m - pb.done).toNat = 0 := by
        have : ¬ pb.done + 1 ≤ m := by simpa using hge
        omega
      rw [hR, slotsR]
      clear hK hF
      repeat' (first | with_reducible refine SeqQ_normal _ _ ?_ | rw [awp_seq] | simp only [pkS, TyB, hw0, implies_true, forall_const, Nat.reduceSub, Nat.reduceEqDiff, Nat.reduceAdd, Nat.reduceMul, Nat.reduceLeDiff, Nat.reduceLT, Nat.reduceBEq, reduceCtorEq] | ((try refine CallRG_tt ?_); apply CallR_of; (solve | exact (walkR_ok pb.tip pb.time (pb.done + 1) [] (Nat.zero_le _)) | (refine CallOK.le (walkR_ok pb.tip pb.time (pb.done + 1) [] (Nat.zero_le _)) ?_; simp [argsLe, aLe, csLe, cLe]))) | (apply CallRG_of; (focus (intro _; (solve | exact (walkR_ok pb.tip pb.time (pb.done + 1) [] (Nat.zero_le _)) | (refine CallOK.le (walkR_ok pb.tip pb.time (pb.done + 1) [] (Nat.zero_le _)) ?_; simp [argsLe, aLe, csLe, cLe])))); (focus rfl)) | refine CallRG_no ?_ | refine CondR_of (fun hb => ?_) (fun hb => ?_) | (refine And.intro ?_ ?_; focus ((try with_reducible refine GIm_of ?_); first | (with_reducible rfl) | ((with_reducible first | refine rng_of ?_ | refine ordOK_of ?_ | refine chk_of ?_); kernel_rfl) | (intros; omega) | (intro q p; rw [q, p]; rfl) | (intro q; rw [q]; rfl) | (intro q; simp only [Bool.and_eq_true, decide_eq_true_eq, beq_iff_eq] at q; omega) | (intros; simp_all; done) | (intros; simp [List.range, List.range.loop]; done) | (intros; simp_all [List.range, List.range.loop]; done))) | refine And.intro (fun hg => ?_) (fun hg => ?_) | (with_reducible refine chk_of ?_; kernel_rfl) | fail)
      simp [rfs2, rosLe_cons, rosLe_nil, roLe, Plan.rf]
  | succ n =>
    simp only
    have ht6 : (batchesE bs).take (bs.length * 6) = batchesE bs := List.take_of_length_le (by rw [batches_len]; omega)
    have hw : IntKind.i64.wrap (pb.done + 1 + ((n + 1 : Nat) : Int) + 1) = pb.done + 1 + ((n + 1 + 1 : Nat) : Int) := by rw [wrap64 (by omega) (by omega)]; omega
    repeat (first | with_reducible refine SeqQ_normal _ _ ?_ | with_reducible refine And.imp_right (SeqQ_normal _ _) ?_ | with_reducible refine And.imp_right (And.imp_right (SeqQ_normal _ _)) ?_ | with_reducible refine And.imp_right (And.imp_right (And.imp_right (SeqQ_normal _ _))) ?_ | rw [awp_seq] | simp only [pkS, TyB, hw, implies_true, forall_const, Nat.reduceSub, Nat.reduceEqDiff, Nat.reduceAdd, Nat.reduceMul, Nat.reduceLeDiff, Nat.reduceLT, Nat.reduceBEq, reduceCtorEq])
    refine CondR_of (fun hlt => ?_) (fun hge => ?_)
    · have hlt' : pb.done + 1 + ((n + 1 : Nat) : Int) ≤ m := by simpa using hlt
      repeat' (first | with_reducible refine SeqQ_normal _ _ ?_ | rw [awp_seq] | simp only [pkS, TyB, sub1_6, toDs_map, sub_map, Nat.zero_mul, List.drop_zero, ht6, hw, implies_true, forall_const, Nat.reduceSub, Nat.reduceEqDiff, Nat.reduceAdd, Nat.reduceMul, Nat.reduceLeDiff, Nat.reduceLT, Nat.reduceBEq, reduceCtorEq] | ((try refine CallRG_tt ?_); apply CallR_of; (solve | exact (highest_ok l h7 (fun p hp => (hmay p hp).len) (pb.done + 1 + ((n + 1 : Nat) : Int))) | (refine CallOK.le (highest_ok l h7 (fun p hp => (hmay p hp).len) (pb.done + 1 + ((n + 1 : Nat) : Int))) ?_; simp [argsLe, aLe, csLe, cLe]))) | (apply CallRG_of; (focus (intro _; (solve | exact (highest_ok l h7 (fun p hp => (hmay p hp).len) (pb.done + 1 + ((n + 1 : Nat) : Int))) | (refine CallOK.le (highest_ok l h7 (fun p hp => (hmay p hp).len) (pb.done + 1 + ((n + 1 : Nat) : Int))) ?_; simp [argsLe, aLe, csLe, cLe])))); (focus rfl)) | refine CallRG_no ?_ | refine CondR_of (fun hb => ?_) (fun hb => ?_) | (refine And.intro ?_ ?_; focus ((try with_reducible refine GIm_of ?_); first | (with_reducible rfl) | ((with_reducible first | refine rng_of ?_ | refine ordOK_of ?_ | refine chk_of ?_); kernel_rfl) | (intros; omega) | (intro q p; rw [q, p]; rfl) | (intro q; rw [q]; rfl) | (intro q; simp only [Bool.and_eq_true, decide_eq_true_eq, beq_iff_eq] at q; omega) | (intros; simp_all; done) | (intros; simp [List.range, List.range.loop]; done) | (intros; simp_all [List.range, List.range.loop]; done))) | refine And.intro (fun hg => ?_) (fun hg => ?_) | (with_reducible refine chk_of ?_; kernel_rfl) | fail)
      try simp only [pkS, TyB, sub1_6, toDs_map, sub_map, Nat.zero_mul, List.drop_zero, ht6, hw, implies_true, forall_const, Nat.reduceSub, Nat.reduceEqDiff, Nat.reduceAdd, Nat.reduceMul, Nat.reduceLeDiff, Nat.reduceLT, Nat.reduceBEq, reduceCtorEq]
      repeat' (first | with_reducible refine SeqQ_normal _ _ ?_ | rw [awp_seq] | simp only [pkS, TyB, sub1_6, toDs_map, sub_map, Nat.zero_mul, List.drop_zero, ht6, hw, implies_true, forall_const, Nat.reduceSub, Nat.reduceEqDiff, Nat.reduceAdd, Nat.reduceMul, Nat.reduceLeDiff, Nat.reduceLT, Nat.reduceBEq, reduceCtorEq] | refine CallRG_no ?_ | refine CondR_of (fun hb => ?_) (fun hb => ?_) | (refine And.intro ?_ ?_; focus ((try with_reducible refine GIm_of ?_); first | (with_reducible rfl) | ((with_reducible first | refine rng_of ?_ | refine ordOK_of ?_ | refine chk_of ?_); kernel_rfl) | (intros; omega) | (intro q p; rw [q, p]; rfl) | (intro q; rw [q]; rfl) | (intro q; simp only [Bool.and_eq_true, decide_eq_true_eq, beq_iff_eq] at q; omega) | (intros; simp_all; done) | (intros; simp [List.range, List.range.loop]; done) | (intros; simp_all [List.range, List.range.loop]; done))) | refine And.intro (fun hg => ?_) (fun hg => ?_) | (with_reducible refine chk_of ?_; kernel_rfl) | fail)
      refine hK _ (n + 1 + 1, bs ++ [(highestP (pb.done + 1 + ((n + 1 : Nat) : Int)) (fillB, -1, 0) l).1], _, _, _, _) (Gh.keep [2, 8] [] ?_ (by simp only [dropAll, List.map_nil, List.append_nil]; rw [batchesE_snoc, List.length_append, List.length_singleton]; rfl)) ⟨by simp only; omega, by simp [hbl0]⟩ ?_ (by simp only; omega)
      · simp only [List.length_append, List.length_singleton, fgt_dead, fgt_same, fgt_nil]
      · simp only
        rw [show (m - pb.done).toNat - (n + 1) = (m - pb.done).toNat - (n + 1 + 1) + 1 by omega, slotsR, List.append_assoc, List.singleton_append]
        rw [show pb.done + 1 + ((n + 1 : Nat) : Int) + 1 = pb.done + 1 + ((n + 1 + 1 : Nat) : Int) by omega]
    · have hR : (m - pb.done).toNat - (n + 1) = 0 := by
        have : ¬ pb.done + 1 + ((n + 1 : Nat) : Int) ≤ m := by simpa using hge
        omega
      rw [hR, slotsR, List.append_nil, List.nil_append, Nat.sub_zero, show pb.done + 1 + ((0 : Nat) : Int) = pb.done + 1 by omega] at hF
      rw [← hF]
      clear hK hF
      have hwk := walkR_ok pb.tip pb.time (pb.done + 1) bs (by omega)
      repeat' (first | with_reducible refine SeqQ_normal _ _ ?_ | rw [awp_seq] | simp only [pkS, TyB, hw0, sub1_6, toDs_map, sub_map, Nat.zero_mul, List.drop_zero, ht6, implies_true, forall_const, Nat.reduceSub, Nat.reduceEqDiff, Nat.reduceAdd, Nat.reduceMul, Nat.reduceLeDiff, Nat.reduceLT, Nat.reduceBEq, reduceCtorEq] | ((try refine CallRG_tt ?_); apply CallR_of; (solve | exact (hwk) | (refine CallOK.le (hwk) ?_; simp [argsLe, aLe, csLe, cLe]))) | (apply CallRG_of; (focus (intro _; (solve | exact (hwk) | (refine CallOK.le (hwk) ?_; simp [argsLe, aLe, csLe, cLe])))); (focus rfl)) | refine CallRG_no ?_ | refine CondR_of (fun hb => ?_) (fun hb => ?_) | (refine And.intro ?_ ?_; focus ((try with_reducible refine GIm_of ?_); first | (with_reducible rfl) | ((with_reducible first | refine rng_of ?_ | refine ordOK_of ?_ | refine chk_of ?_); kernel_rfl) | (intros; omega) | (intro q p; rw [q, p]; rfl) | (intro q; rw [q]; rfl) | (intro q; simp only [Bool.and_eq_true, decide_eq_true_eq, beq_iff_eq] at q; omega) | (intros; simp_all; done) | (intros; simp [List.range, List.range.loop]; done) | (intros; simp_all [List.range, List.range.loop]; done))) | refine And.intro (fun hg => ?_) (fun hg => ?_) | (with_reducible refine chk_of ?_; kernel_rfl) | fail)
      simp [rfs2, rosLe_cons, rosLe_nil, roLe, Plan.rf]
end Go.Proofs.YtgiempmfpmlgnaaGreat

