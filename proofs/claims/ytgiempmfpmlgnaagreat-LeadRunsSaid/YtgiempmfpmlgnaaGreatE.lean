/- Contracts: promises that may be. -/
import Derived.Test.YtgiempmfpmlgnaaGreatD
namespace Go.Proofs.YtgiempmfpmlgnaaGreat
open Go.Pk
set_option maxRecDepth 100000
set_option linter.unusedSimpArgs false
set_option linter.unusedVariables false
theorem b1 {q a b : Bool} (hg : (q == false) = false) : (q || a || b) = true := by cases q <;> simp_all
theorem b2 {q a b c : Bool} (h : (q || !!a || b) = c) : (q || a || b) = c := by simpa using h
theorem b3 {q b : Bool} (hg : (q == false) = false) (hb : (q || b) = false) : False := by cases q <;> simp_all
theorem any2 {x y : Int} : [x, y].any bad = (bad x || bad y) := by simp
/-- Votes of rising slots that may be, behind a slot. -/
def votesMay (done : Int) : Int → List Vote → Bool
  | _, [] => true
  | last, v :: rest => if (decide (v.slot ≤ last) || decide (v.slot - done > 9) || (bad v.slot || bad v.ballot) || !Batch.may v.batch) = true then false else votesMay done v.slot rest
def Prom.may (p : Prom) : Bool :=
  if (decide (p.src < 0) || decide (p.src ≥ 7) || [p.done, p.tip.view, p.tip.slot, p.time].any bad || decide ((p.votes.length : Int) > 9)) = true then false else votesMay p.done p.done p.votes
theorem promMay_ok (p : Prom) (hok : p.ok) : CallOK Tryz.prog 35 [.f (.agg p.lent)] (fun r o => r = [rb (Prom.may p)] ∧ o = []) := by
  have hlen : p.votes.length < 2 ^ 42 := hok.2.2.2.2.2.1
  have hv : ∀ v ∈ p.votes, v.ok := hok.2.2.2.2.2.2
  refine callOK_of TOKTy mixed (T := Ty) (n := 74) Tryz.func35 (c := Tryz.f35.body.getD .skip) rfl Tryz.results35 Tryz.ntmps35 Tryz.call35 ?_
  simp only [Tryz.f35, Option.getD]
  repeat' (first | with_reducible refine SeqQ_normal _ _ ?_ | rw [awp_seq] | simp only [pkS, TyB,  implies_true, forall_const, Nat.reduceSub, Nat.reduceEqDiff, Nat.reduceAdd, Nat.reduceMul, Nat.reduceLeDiff, Nat.reduceLT, Nat.reduceBEq, reduceCtorEq] | ((try refine CallRG_tt ?_); apply CallR_of; (solve | exact (isNum_ok [_, _, _, _] (by simp)) | (refine CallOK.le (isNum_ok [_, _, _, _] (by simp)) ?_; simp [argsLe, aLe, csLe, cLe]))) | (apply CallRG_of; (focus (intro _; (solve | exact (isNum_ok [_, _, _, _] (by simp)) | (refine CallOK.le (isNum_ok [_, _, _, _] (by simp)) ?_; simp [argsLe, aLe, csLe, cLe])))); (focus rfl)) | refine CallRG_no ?_ | refine CondR_of (fun hb => ?_) (fun hb => ?_) | (refine And.intro ?_ ?_; focus ((try with_reducible refine GIm_of ?_); first | (with_reducible rfl) | ((with_reducible first | refine rng_of ?_ | refine ordOK_of ?_ | refine chk_of ?_); kernel_rfl) | (intros; omega) | (intro q p; rw [q, p]; rfl) | (intro q; rw [q]; rfl) | (intro q; simp only [Bool.and_eq_true, decide_eq_true_eq, beq_iff_eq] at q; omega) | (intros; simp_all; done) | (intros; simp [List.range, List.range.loop]; done) | (intros; simp_all [List.range, List.range.loop]; done))) | refine And.intro (fun hg => ?_) (fun hg => ?_) | (with_reducible refine chk_of ?_; kernel_rfl) | fail)
  · rw [Prom.may, if_pos (b2 hb)]
  rotate_left
  · rw [Prom.may, if_pos (b1 hg)]
  · exact (b3 hg hb).elim
  have hc : ¬ (decide (p.src < 0) || decide (p.src ≥ 7) || [p.done, p.tip.view, p.tip.slot, p.time].any bad || decide ((p.votes.length : Int) > 9)) = true := by
    rw [b2 hb]; simp
  have hdone : 0 ≤ p.done := by
    simp [bad] at hc
    omega
  have hm : Prom.may p = votesMay p.done p.done p.votes := by rw [Prom.may, if_neg hc]
  rw [hm]
  repeat (first | with_reducible refine SeqQ_normal _ _ ?_ | with_reducible refine And.imp_right (SeqQ_normal _ _) ?_ | with_reducible refine And.imp_right (And.imp_right (SeqQ_normal _ _)) ?_ | with_reducible refine And.imp_right (And.imp_right (And.imp_right (SeqQ_normal _ _))) ?_ | rw [awp_seq] | simp only [pkS, TyB,  implies_true, forall_const, Nat.reduceSub, Nat.reduceEqDiff, Nat.reduceAdd, Nat.reduceMul, Nat.reduceLeDiff, Nat.reduceLT, Nat.reduceBEq, reduceCtorEq])
  refine LoopR_fn (τ := Nat × Int × Nat × Nat) (fun t => ⟨[dd, .one (.ptr ⟨1, 0, 0⟩ 0), ab false, ai t.2.1, dd, dd, dd, dd, dd, dd, dd, dd, dd, dd, dd, dd, dd, dd, dd, dd, dd, dd, dd, dd, dd, dd, dd, dd, dd, dd, dd, dd, dd, dd, dd, dd, dd, dd, al p.votes.length (votesE p.votes), ai p.votes.length, ai t.1, dd, dd, dd, dd, dd, dd, dd, dd, dd, dd, dd, dd, dd, dd, dd, dd, dd, dd, dd, dd, dd, dd, dd, dd, dd, dd, dd, dd, dd, dd, dd, dd, dd],
    [(1, { next := 7, l := [some { e := 0, var := true, fz := false, sz := 0, cells := [di p.src, di p.done, di p.tip.view, di p.tip.slot, di p.time, .lent p.votes.length (votesE p.votes)] }, none, none, none, none, none, none] }), (25, ⟨1, []⟩), (5, ⟨t.2.2.1, []⟩), (61, ⟨t.2.2.2, []⟩)]⟩)
    (fun t => t.1 ≤ p.votes.length ∧ p.done ≤ t.2.1) (fun t => votesMay p.done t.2.1 (p.votes.drop t.1)) (fun t => p.votes.length - t.1) (0, p.done, 0, 0) (Gh.keep [1] [5, 61] ?_ rfl) ⟨Nat.zero_le _, Int.le_refl _⟩ ?_
  · simp only [fgt_dead, fgt_same, fgt_nil, Int.natCast_zero]
  intro ⟨i, last, e5, e61⟩ ⟨hi0, hl0⟩ hF K hK
  simp only at hi0 hl0 hF hK ⊢
  repeat (first | with_reducible refine SeqQ_normal _ _ ?_ | with_reducible refine And.imp_right (SeqQ_normal _ _) ?_ | with_reducible refine And.imp_right (And.imp_right (SeqQ_normal _ _)) ?_ | with_reducible refine And.imp_right (And.imp_right (And.imp_right (SeqQ_normal _ _))) ?_ | rw [awp_seq] | simp only [pkS, TyB,  implies_true, forall_const, Nat.reduceSub, Nat.reduceEqDiff, Nat.reduceAdd, Nat.reduceMul, Nat.reduceLeDiff, Nat.reduceLT, Nat.reduceBEq, reduceCtorEq])
  refine CondR_of (fun hlt => ?_) (fun hge => ?_)
  · have hi : i < p.votes.length := by simpa using hlt
    rw [List.drop_eq_getElem_cons hi, votesMay] at hF
    have hat := votes_at hi
    simp only [List.cons_append, List.nil_append] at hat
    have hvo := hv _ (List.getElem_mem hi)
    have hw : (decide (p.votes[i].slot ≤ last) || decide (IntKind.i64.wrap (p.votes[i].slot - p.done) > 9)) = (decide (p.votes[i].slot ≤ last) || decide (p.votes[i].slot - p.done > 9)) := by
      by_cases h : p.votes[i].slot ≤ last
      · simp [h]
      · have := hvo.1
        unfold i64 at this
        rw [wrap64 (by omega) (by omega)]
    repeat' (first | with_reducible refine SeqQ_normal _ _ ?_ | rw [awp_seq] | simp only [pkS, TyB, votes_len, hat, implies_true, forall_const, Nat.reduceSub, Nat.reduceEqDiff, Nat.reduceAdd, Nat.reduceMul, Nat.reduceLeDiff, Nat.reduceLT, Nat.reduceBEq, reduceCtorEq] | ((try refine CallRG_tt ?_); apply CallR_of; (solve | exact (isNum_ok [_, _] (by simp)) | exact (batchMay_ok _ hvo.2.2) | (refine CallOK.le (isNum_ok [_, _] (by simp)) ?_; simp [argsLe, aLe, csLe, cLe]) | (refine CallOK.le (batchMay_ok _ hvo.2.2) ?_; simp [argsLe, aLe, csLe, cLe]))) | (apply CallRG_of; (focus (intro _; (solve | exact (isNum_ok [_, _] (by simp)) | exact (batchMay_ok _ hvo.2.2) | (refine CallOK.le (isNum_ok [_, _] (by simp)) ?_; simp [argsLe, aLe, csLe, cLe]) | (refine CallOK.le (batchMay_ok _ hvo.2.2) ?_; simp [argsLe, aLe, csLe, cLe])))); (focus rfl)) | refine CallRG_no ?_ | refine CondR_of (fun hb => ?_) (fun hb => ?_) | (refine And.intro ?_ ?_; focus ((try with_reducible refine GIm_of ?_); first | (with_reducible rfl) | ((with_reducible first | refine rng_of ?_ | refine ordOK_of ?_ | refine chk_of ?_); kernel_rfl) | (intros; omega) | (intro q p; rw [q, p]; rfl) | (intro q; rw [q]; rfl) | (intro q; simp only [Bool.and_eq_true, decide_eq_true_eq, beq_iff_eq] at q; omega) | (intros; simp_all; done) | (intros; simp [List.range, List.range.loop]; done) | (intros; simp_all [List.range, List.range.loop]; done))) | refine And.intro (fun hg => ?_) (fun hg => ?_) | (with_reducible refine chk_of ?_; kernel_rfl) | fail)
    all_goals rw [hw] at hb hg
    · rw [if_pos (by rw [← any2]; exact b2 hb), List.drop_zero] at hF
      rw [← hF]
    · have hb' := b2 hb
      rw [any2] at hb'
      rw [if_neg (by rw [hb']; simp)] at hF
      have hsl : last < p.votes[i].slot := by
        simp only [Bool.or_eq_false_iff, decide_eq_false_iff_not] at hb'
        omega
      refine hK _ (i + 1, p.votes[i].slot, _, _) (Gh.keep [1] [] ?_ rfl) ⟨hi, by simp only; omega⟩ (by simp only [List.drop_eq_getElem_cons hi, votesMay]; rw [if_neg (by rw [hb']; simp)]) (by simp only; omega)
      simp only [i64_succ hi (by omega), fgt_dead, fgt_same, fgt_nil]
    · rw [if_pos (b1 hg), List.drop_zero] at hF
      rw [← hF]
    · exact (b3 hg hb).elim
  · have hi : i = p.votes.length := by
      have : ¬ (i : Int) < p.votes.length := by simpa using hge
      omega
    rw [hi, List.drop_length, List.drop_zero, votesMay] at hF
    repeat (first | with_reducible refine SeqQ_normal _ _ ?_ | with_reducible refine And.imp_right (SeqQ_normal _ _) ?_ | with_reducible refine And.imp_right (And.imp_right (SeqQ_normal _ _)) ?_ | with_reducible refine And.imp_right (And.imp_right (And.imp_right (SeqQ_normal _ _))) ?_ | rw [awp_seq] | simp only [pkS, TyB,  implies_true, forall_const, Nat.reduceSub, Nat.reduceEqDiff, Nat.reduceAdd, Nat.reduceMul, Nat.reduceLeDiff, Nat.reduceLT, Nat.reduceBEq, reduceCtorEq])
    rw [← hF]
theorem promHead (p : Prom) : (decide (p.src < 0) || decide (p.src ≥ 7) || [p.done, p.tip.view, p.tip.slot, p.time].any bad || decide ((p.votes.length : Int) > 9)) =
    (decide (p.src < 0) || decide (p.src ≥ 7) || !(decide (p.done ≥ 0) && decide (p.done ≤ High)) || !Tip.may p.tip || !(decide (p.time ≥ 0) && decide (p.time ≤ High)) || decide ((p.votes.length : Int) > 9)) := by
  have h : ∀ n : Int, bad n = !(decide (n ≥ 0) && decide (n ≤ High)) := fun n => by rw [← Bool.not_not (b := bad n), bad_inH]; rfl
  simp only [List.any_cons, List.any_nil, Bool.or_false, Tip.may, inH, h, Bool.not_and, Bool.or_assoc]
theorem voteCond {done s s' q L bl : Int} {i : Nat} {m : Bool} (hd : 0 ≤ done) (hl0 : done ≤ L) (hwr : s ≤ done ∨ q = s - done) (hlast : L = if i = 0 then done else s') :
    (!(decide (s ≥ 1) && decide (s ≤ High)) || decide (s ≤ done) || decide (q > 9) || decide ((i : Int) > 0) && decide (s ≤ s') || !(decide (bl ≥ 0) && decide (bl ≤ High)) || !m) =
      (decide (s ≤ L) || decide (s - done > 9) || (bad s || bad bl) || !m) := by
  rw [Bool.eq_iff_iff]
  cases m <;> simp [bad, High]
  split at hlast <;> omega
/-- The slot of the vote ahead. -/
def lastOf (p : Prom) (i : Nat) : Int := if i = 0 then p.done else (p.votes[i - 1]?.map Vote.slot).getD 0
theorem promMayR_ok (p : Prom) (hok : p.ok) : CallOK Tryz.prog 41 [.f (.agg p.lent)] (fun r o => r = [rb (Prom.may p)] ∧ o = []) := by
  have hlen : p.votes.length < 2 ^ 42 := hok.2.2.2.2.2.1
  have hv : ∀ v ∈ p.votes, v.ok := hok.2.2.2.2.2.2
  refine callOK_of TOKTy mixed (T := Ty) (n := 96) Tryz.func41 (c := Tryz.f41.body.getD .skip) rfl Tryz.results41 Tryz.ntmps41 Tryz.call41 ?_
  simp only [Tryz.f41, Option.getD]
  repeat' (first | with_reducible refine SeqQ_normal _ _ ?_ | rw [awp_seq] | simp only [pkS, TyB,  implies_true, forall_const, Nat.reduceSub, Nat.reduceEqDiff, Nat.reduceAdd, Nat.reduceMul, Nat.reduceLeDiff, Nat.reduceLT, Nat.reduceBEq, reduceCtorEq] | ((try refine CallRG_tt ?_); apply CallR_of; (solve | exact (high_ok _ _) | exact (mayTip_ok p.tip) | (refine CallOK.le (high_ok _ _) ?_; simp [argsLe, aLe, csLe, cLe]) | (refine CallOK.le (mayTip_ok p.tip) ?_; simp [argsLe, aLe, csLe, cLe]))) | (apply CallRG_of; (focus (intro _; (solve | exact (high_ok _ _) | exact (mayTip_ok p.tip) | (refine CallOK.le (high_ok _ _) ?_; simp [argsLe, aLe, csLe, cLe]) | (refine CallOK.le (mayTip_ok p.tip) ?_; simp [argsLe, aLe, csLe, cLe])))); (focus rfl)) | refine CallRG_no ?_ | refine CondR_of (fun hb => ?_) (fun hb => ?_) | (refine And.intro ?_ ?_; focus ((try with_reducible refine GIm_of ?_); first | (with_reducible rfl) | ((with_reducible first | refine rng_of ?_ | refine ordOK_of ?_ | refine chk_of ?_); kernel_rfl) | (intros; omega) | (intro q p; rw [q, p]; rfl) | (intro q; rw [q]; rfl) | (intro q; simp only [Bool.and_eq_true, decide_eq_true_eq, beq_iff_eq] at q; omega) | (intros; simp_all; done) | (intros; simp [List.range, List.range.loop]; done) | (intros; simp_all [List.range, List.range.loop]; done))) | refine And.intro (fun hg => ?_) (fun hg => ?_) | (with_reducible refine chk_of ?_; kernel_rfl) | fail)
  all_goals have hC : (decide (p.src < 0) || decide (p.src ≥ 7) || [p.done, p.tip.view, p.tip.slot, p.time].any bad || decide ((p.votes.length : Int) > 9)) = _ := ((promHead p).trans hb)
  · rw [Prom.may, if_pos hC]
  have hm : Prom.may p = votesMay p.done p.done p.votes := by rw [Prom.may, if_neg (by rw [hC]; simp)]
  have hdone : 0 ≤ p.done := by
    simp [bad] at hC
    omega
  rw [hm]
  repeat (first | with_reducible refine SeqQ_normal _ _ ?_ | with_reducible refine And.imp_right (SeqQ_normal _ _) ?_ | with_reducible refine And.imp_right (And.imp_right (SeqQ_normal _ _)) ?_ | with_reducible refine And.imp_right (And.imp_right (And.imp_right (SeqQ_normal _ _))) ?_ | rw [awp_seq] | simp only [pkS, TyB,  implies_true, forall_const, Nat.reduceSub, Nat.reduceEqDiff, Nat.reduceAdd, Nat.reduceMul, Nat.reduceLeDiff, Nat.reduceLT, Nat.reduceBEq, reduceCtorEq])
  refine LoopR_fn (τ := Nat × Nat) (fun t => ⟨[dd, .one (.ptr ⟨1, 0, 0⟩ 0), ab false, ai t.1, dd, dd, dd, dd, dd, dd, dd, dd, dd, dd, dd, dd, dd, dd, dd, dd, dd, dd, dd, dd, dd, dd, dd, dd, dd, dd, dd, dd, dd, dd, dd, dd, dd, dd, dd, dd, dd, dd, dd, dd, dd, dd, dd, dd, dd, dd, dd, dd, dd, dd, dd, dd, dd, dd, dd, dd, dd, dd, dd, dd, dd, dd, dd, dd, dd, dd, dd, dd, dd, dd, dd, dd, dd, dd, dd, dd, dd, dd, dd, dd, dd, dd, dd, dd, dd, dd, dd, dd, dd, dd, dd, dd],
    [(1, { next := 7, l := [some { e := 0, var := true, fz := false, sz := 0, cells := [di p.src, di p.done, di p.tip.view, di p.tip.slot, di p.time, .lent p.votes.length (votesE p.votes)] }, none, none, none, none, none, none] }), (4, ⟨t.2, []⟩)]⟩)
    (fun t => t.1 ≤ p.votes.length ∧ p.done ≤ lastOf p t.1) (fun t => votesMay p.done (lastOf p t.1) (p.votes.drop t.1)) (fun t => p.votes.length - t.1) (0, 0) (Gh.keep [1] [4] ?_ rfl) ⟨Nat.zero_le _, Int.le_refl _⟩ ?_
  · simp only [fgt_dead, fgt_same, fgt_nil, Int.natCast_zero]
  intro ⟨i, e⟩ ⟨hi0, hl0⟩ hF K hK
  simp only at hi0 hl0 hF hK ⊢
  repeat (first | with_reducible refine SeqQ_normal _ _ ?_ | with_reducible refine And.imp_right (SeqQ_normal _ _) ?_ | with_reducible refine And.imp_right (And.imp_right (SeqQ_normal _ _)) ?_ | with_reducible refine And.imp_right (And.imp_right (And.imp_right (SeqQ_normal _ _))) ?_ | rw [awp_seq] | simp only [pkS, TyB,  implies_true, forall_const, Nat.reduceSub, Nat.reduceEqDiff, Nat.reduceAdd, Nat.reduceMul, Nat.reduceLeDiff, Nat.reduceLT, Nat.reduceBEq, reduceCtorEq])
  refine CondR_of (fun hlt => ?_) (fun hge => ?_)
  · have hi : i < p.votes.length := by simpa using hlt
    rw [List.drop_eq_getElem_cons hi, votesMay] at hF
    have hat := votes_at hi
    have hat2 := votes_at (show i - 1 < p.votes.length by omega)
    simp only [List.cons_append, List.nil_append] at hat hat2
    have hvo := hv _ (List.getElem_mem hi)
    have hw1 : IntKind.i64.wrap ((i : Int) - 1) = (i : Int) - 1 := wrap64 (by omega) (by omega)
    have hw2 : ((i : Int) - 1).toNat = i - 1 := by omega
    have hwr : p.votes[i].slot ≤ p.done ∨ IntKind.i64.wrap (p.votes[i].slot - p.done) = p.votes[i].slot - p.done := by
      by_cases h : p.votes[i].slot ≤ p.done
      · exact .inl h
      · have := hvo.1
        unfold i64 at this
        exact .inr (wrap64 (by omega) (by omega))
    have hlast : lastOf p i = if i = 0 then p.done else p.votes[i - 1].slot := by
      unfold lastOf
      split
      · rfl
      · rw [List.getElem?_eq_getElem (by omega)]; rfl
    have hCC := voteCond (m := Batch.may p.votes[i].batch) (bl := p.votes[i].ballot) hdone hl0 hwr hlast
    repeat' (first | with_reducible refine SeqQ_normal _ _ ?_ | rw [awp_seq] | simp only [pkS, TyB, votes_len, hat, hat2, hw1, hw2, implies_true, forall_const, Nat.reduceSub, Nat.reduceEqDiff, Nat.reduceAdd, Nat.reduceMul, Nat.reduceLeDiff, Nat.reduceLT, Nat.reduceBEq, reduceCtorEq] | ((try refine CallRG_tt ?_); apply CallR_of; (solve | exact (high_ok _ _) | exact (batchMayR_ok _ hvo.2.2) | (refine CallOK.le (high_ok _ _) ?_; simp [argsLe, aLe, csLe, cLe]) | (refine CallOK.le (batchMayR_ok _ hvo.2.2) ?_; simp [argsLe, aLe, csLe, cLe]))) | (apply CallRG_of; (focus (intro _; (solve | exact (high_ok _ _) | exact (batchMayR_ok _ hvo.2.2) | (refine CallOK.le (high_ok _ _) ?_; simp [argsLe, aLe, csLe, cLe]) | (refine CallOK.le (batchMayR_ok _ hvo.2.2) ?_; simp [argsLe, aLe, csLe, cLe])))); (focus rfl)) | refine CallRG_no ?_ | refine CondR_of (fun hb => ?_) (fun hb => ?_) | (refine And.intro ?_ ?_; focus ((try with_reducible refine GIm_of ?_); first | (with_reducible rfl) | ((with_reducible first | refine rng_of ?_ | refine ordOK_of ?_ | refine chk_of ?_); kernel_rfl) | (intros; omega) | (intro q p; rw [q, p]; rfl) | (intro q; rw [q]; rfl) | (intro q; simp only [Bool.and_eq_true, decide_eq_true_eq, beq_iff_eq] at q; omega) | (intros; simp_all; done) | (intros; simp [List.range, List.range.loop]; done) | (intros; simp_all [List.range, List.range.loop]; done))) | refine And.intro (fun hg => ?_) (fun hg => ?_) | (with_reducible refine chk_of ?_; kernel_rfl) | fail)
    all_goals rw [hCC] at hb
    · rw [if_pos hb, List.drop_zero, show lastOf p 0 = p.done from rfl] at hF
      rw [← hF]
    · rw [if_neg (by rw [hb]; simp)] at hF
      have hl1 : lastOf p (i + 1) = p.votes[i].slot := by simp [lastOf, hi]
      refine hK _ (i + 1, _) (Gh.keep [1] [] ?_ rfl) ⟨hi, ?_⟩ (by simp only [List.drop_eq_getElem_cons hi, votesMay]; rw [if_neg (by rw [hb]; simp), hl1]) (by simp only; omega)
      · simp only [i64_succ hi (by omega), fgt_dead, fgt_same, fgt_nil]
      · show p.done ≤ lastOf p (i + 1)
        rw [hl1]
        simp only [Bool.or_eq_false_iff, decide_eq_false_iff_not] at hb
        omega
  · have hi : i = p.votes.length := by
      have : ¬ (i : Int) < p.votes.length := by simpa using hge
      omega
    rw [hi, List.drop_length, List.drop_zero, votesMay, show lastOf p 0 = p.done from rfl] at hF
    repeat (first | with_reducible refine SeqQ_normal _ _ ?_ | with_reducible refine And.imp_right (SeqQ_normal _ _) ?_ | with_reducible refine And.imp_right (And.imp_right (SeqQ_normal _ _)) ?_ | with_reducible refine And.imp_right (And.imp_right (And.imp_right (SeqQ_normal _ _))) ?_ | rw [awp_seq] | simp only [pkS, TyB,  implies_true, forall_const, Nat.reduceSub, Nat.reduceEqDiff, Nat.reduceAdd, Nat.reduceMul, Nat.reduceLeDiff, Nat.reduceLT, Nat.reduceBEq, reduceCtorEq])
    rw [← hF]
end Go.Proofs.YtgiempmfpmlgnaaGreat

