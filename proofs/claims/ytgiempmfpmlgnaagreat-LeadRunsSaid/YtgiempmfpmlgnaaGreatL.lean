/- Contracts: the document's plan. -/
import Derived.Test.YtgiempmfpmlgnaaGreatK
namespace Go.Proofs.YtgiempmfpmlgnaaGreat
open Go.Pk
set_option maxRecDepth 100000
set_option linter.unusedSimpArgs false
set_option linter.unusedVariables false
def fillB : Batch := ⟨true, 0, ⟨0, 0⟩, 0, []⟩
def highV (slot src : Int) (s : Batch × Int × Int) (v : Vote) : Batch × Int × Int :=
  if v.slot = slot ∧ (s.2.1 < v.ballot ∨ (v.ballot = s.2.1 ∧ src < s.2.2)) then (v.batch, v.ballot, src) else s
def highestP (slot : Int) (s : Batch × Int × Int) (l : List Prom) : Batch × Int × Int := l.foldl (fun s p => p.votes.foldl (highV slot p.src) s) s
def reqsD (c : D) (l : List Req) : Prop := (c = .v (.slice none 0 0) ∧ l = []) ∨ c = .sl l.length (reqsE l)
set_option maxHeartbeats 1000000 in
theorem highest_ok (l : List Prom) (hl : l.length ≤ 7) (hok : ∀ p ∈ l, p.votes.length ≤ 9) (slot : Int) : CallOK Tryz.prog 63 [.f (al l.length (promisesE l)), .f (ai slot)]
    (fun r o => r = [.agg ((highestP slot (fillB, -1, 0) l).1.enc.map RO.d)] ∧ o = []) := by
  refine CallOK.nil ?_
  refine callOK_of TOKTy mixed (T := Ty) (n := 71) Tryz.func63 (c := Tryz.f63.body.getD .skip) rfl Tryz.results63 Tryz.ntmps63 Tryz.call63 ?_
  simp only [Tryz.f63, Option.getD]
  repeat (first | with_reducible refine SeqQ_normal _ _ ?_ | with_reducible refine And.imp_right (SeqQ_normal _ _) ?_ | with_reducible refine And.imp_right (And.imp_right (SeqQ_normal _ _)) ?_ | with_reducible refine And.imp_right (And.imp_right (And.imp_right (SeqQ_normal _ _))) ?_ | rw [awp_seq] | simp only [pkS, TyB,  implies_true, forall_const, Nat.reduceSub, Nat.reduceEqDiff, Nat.reduceAdd, Nat.reduceMul, Nat.reduceLeDiff, Nat.reduceLT, Nat.reduceBEq, reduceCtorEq])
  refine LoopR_fn (τ := Nat × (Batch × Int × Int) × D × Nat × Nat) (fun t => ⟨[al l.length (promisesE l), ai slot, dd, dd, .one (.ptr ⟨4, 0, 0⟩ 0), .one (.ptr ⟨5, 0, 0⟩ 0), ai t.2.1.2.1, ai t.2.1.2.2, ai t.1, dd, dd, dd, dd, dd, dd, dd, dd, dd, dd, dd, dd, dd, dd, dd, dd, dd, dd, dd, dd, dd, dd, dd, dd, dd, dd, dd, dd, dd, dd, dd, dd, dd, dd, dd, dd, dd, dd, dd, dd, dd, dd, dd, dd, dd, dd, dd, dd, dd, dd, dd, dd, dd, dd, dd, dd, dd, dd, dd, dd, dd, dd],
    [(4, { next := 1, l := [some { e := 0, var := true, fz := false, sz := 0, cells := [db false, di 0, di 0, di 0, di 0, .d (.v (.slice none 0 0))] }, none, none, none, none, none, none] }),
     (5, { next := t.2.2.2.2, l := [some { e := 0, var := true, fz := false, sz := 0, cells := [db t.2.1.1.fill, di t.2.1.1.view, di t.2.1.1.tip.view, di t.2.1.1.tip.slot, di t.2.1.1.time, .d t.2.2.1] }, none, none, none, none, none, none] }), (10, ⟨t.2.2.2.1, []⟩)]⟩)
    (fun t => t.1 ≤ l.length ∧ reqsD t.2.2.1 t.2.1.1.reqs) (fun t => highestP slot t.2.1 (l.drop t.1)) (fun t => l.length - t.1) (0, (fillB, -1, 0), .v (.slice none 0 0), 0, 7) (Gh.keep [4, 5] [10] ?_ rfl) ⟨Nat.zero_le _, .inl ⟨rfl, rfl⟩⟩ ?_
  · simp only [fgt_dead, fgt_same, fgt_nil, Int.natCast_zero]
  intro ⟨i, s, c, e10, n5⟩ ⟨hi0, hc⟩ hF K hK
  simp only at hi0 hc hF hK ⊢
  repeat (first | with_reducible refine SeqQ_normal _ _ ?_ | with_reducible refine And.imp_right (SeqQ_normal _ _) ?_ | with_reducible refine And.imp_right (And.imp_right (SeqQ_normal _ _)) ?_ | with_reducible refine And.imp_right (And.imp_right (And.imp_right (SeqQ_normal _ _))) ?_ | rw [awp_seq] | simp only [pkS, TyB,  implies_true, forall_const, Nat.reduceSub, Nat.reduceEqDiff, Nat.reduceAdd, Nat.reduceMul, Nat.reduceLeDiff, Nat.reduceLT, Nat.reduceBEq, reduceCtorEq])
  refine CondR_of (fun hlt => ?_) (fun hge => ?_)
  · have hi : i < l.length := by simpa using hlt
    have hat := promises_at hi
    simp only [List.cons_append, List.nil_append] at hat
    have hpv := hok _ (List.getElem_mem hi)
    repeat (first | with_reducible refine SeqQ_normal _ _ ?_ | with_reducible refine And.imp_right (SeqQ_normal _ _) ?_ | with_reducible refine And.imp_right (And.imp_right (SeqQ_normal _ _)) ?_ | with_reducible refine And.imp_right (And.imp_right (And.imp_right (SeqQ_normal _ _))) ?_ | rw [awp_seq] | simp only [pkS, TyB,  implies_true, forall_const, Nat.reduceSub, Nat.reduceEqDiff, Nat.reduceAdd, Nat.reduceMul, Nat.reduceLeDiff, Nat.reduceLT, Nat.reduceBEq, reduceCtorEq])
    refine LoopR_fn (τ := Nat × (Batch × Int × Int) × D × Nat × Nat) (fun t => ⟨[al l.length (promisesE l), ai slot, dd, dd, .one (.ptr ⟨4, 0, 0⟩ 0), .one (.ptr ⟨5, 0, 0⟩ 0), ai t.2.1.2.1, ai t.2.1.2.2, ai i, ai t.1, dd, dd, dd, dd, dd, dd, dd, dd, dd, dd, dd, dd, dd, dd, dd, dd, dd, dd, dd, dd, dd, dd, dd, dd, dd, dd, dd, dd, dd, dd, dd, dd, dd, dd, dd, dd, dd, dd, dd, dd, dd, dd, dd, dd, dd, dd, dd, dd, dd, dd, dd, dd, dd, dd, dd, dd, dd, dd, dd, dd, dd],
      [(4, { next := 1, l := [some { e := 0, var := true, fz := false, sz := 0, cells := [db false, di 0, di 0, di 0, di 0, .d (.v (.slice none 0 0))] }, none, none, none, none, none, none] }),
       (5, { next := t.2.2.2.2, l := [some { e := 0, var := true, fz := false, sz := 0, cells := [db t.2.1.1.fill, di t.2.1.1.view, di t.2.1.1.tip.view, di t.2.1.1.tip.slot, di t.2.1.1.time, .d t.2.2.1] }, none, none, none, none, none, none] }), (10, ⟨t.2.2.2.1, []⟩)]⟩)
      (fun t => t.1 ≤ l[i].votes.length ∧ reqsD t.2.2.1 t.2.1.1.reqs) (fun t => (l[i].votes.drop t.1).foldl (highV slot l[i].src) t.2.1) (fun t => l[i].votes.length - t.1) (0, s, c, e10, n5) (Gh.keep [4, 5] [] ?_ rfl) ⟨Nat.zero_le _, hc⟩ ?_
    · simp only [fgt_dead, fgt_same, fgt_nil, Int.natCast_zero]
    intro ⟨k, s2, c2, e10, n5⟩ ⟨hk0, hc2⟩ hF2 K2 hK2
    simp only at hk0 hc2 hF2 hK2 ⊢
    repeat' (first | with_reducible refine SeqQ_normal _ _ ?_ | rw [awp_seq] | simp only [pkS, TyB, promises_len, hat, implies_true, forall_const, Nat.reduceSub, Nat.reduceEqDiff, Nat.reduceAdd, Nat.reduceMul, Nat.reduceLeDiff, Nat.reduceLT, Nat.reduceBEq, reduceCtorEq] | refine CallRG_no ?_ | refine CondR_of (fun hb => ?_) (fun hb => ?_) | (refine And.intro ?_ ?_; focus ((try with_reducible refine GIm_of ?_); first | (with_reducible rfl) | ((with_reducible first | refine rng_of ?_ | refine ordOK_of ?_ | refine chk_of ?_); kernel_rfl) | (intros; omega) | (intro q p; rw [q, p]; rfl) | (intro q; rw [q]; rfl) | (intro q; simp only [Bool.and_eq_true, decide_eq_true_eq, beq_iff_eq] at q; omega) | (intros; simp_all; done) | (intros; simp [List.range, List.range.loop]; done) | (intros; simp_all [List.range, List.range.loop]; done))) | refine And.intro (fun hg => ?_) (fun hg => ?_) | (with_reducible refine chk_of ?_; kernel_rfl) | fail)
    · have hk : k < l[i].votes.length := by simpa using hb
      have hat2 := votes_at hk
      simp only [List.cons_append, List.nil_append] at hat2
      repeat' (first | with_reducible refine SeqQ_normal _ _ ?_ | rw [awp_seq] | simp only [pkS, TyB, promises_len, hat, votes_len, hat2, implies_true, forall_const, Nat.reduceSub, Nat.reduceEqDiff, Nat.reduceAdd, Nat.reduceMul, Nat.reduceLeDiff, Nat.reduceLT, Nat.reduceBEq, reduceCtorEq] | refine CallRG_no ?_ | refine CondR_of (fun hb => ?_) (fun hb => ?_) | (refine And.intro ?_ ?_; focus ((try with_reducible refine GIm_of ?_); first | (with_reducible rfl) | ((with_reducible first | refine rng_of ?_ | refine ordOK_of ?_ | refine chk_of ?_); kernel_rfl) | (intros; omega) | (intro q p; rw [q, p]; rfl) | (intro q; rw [q]; rfl) | (intro q; simp only [Bool.and_eq_true, decide_eq_true_eq, beq_iff_eq] at q; omega) | (intros; simp_all; done) | (intros; simp [List.range, List.range.loop]; done) | (intros; simp_all [List.range, List.range.loop]; done))) | refine And.intro (fun hg => ?_) (fun hg => ?_) | (with_reducible refine chk_of ?_; kernel_rfl) | fail)
      · have hc0 : l[i].votes[k].slot = slot ∧ (s2.2.1 < l[i].votes[k].ballot ∨ (l[i].votes[k].ballot = s2.2.1 ∧ l[i].src < s2.2.2)) := by simpa using hb
        refine hK2 _ (k + 1, (l[i].votes[k].batch, l[i].votes[k].ballot, l[i].src), .sl l[i].votes[k].batch.reqs.length (reqsE l[i].votes[k].batch.reqs), _, _) (Gh.keep [4, 5] [] ?_ rfl) ⟨hk, .inr rfl⟩ ?_ (by simp only; omega)
        · simp only [i64_succ hk (by omega), fgt_dead, fgt_same, fgt_nil]
        · simp only [List.drop_eq_getElem_cons hk, List.foldl_cons]
          rw [highV, if_pos hc0]
      · have hc0 : ¬ (l[i].votes[k].slot = slot ∧ (s2.2.1 < l[i].votes[k].ballot ∨ (l[i].votes[k].ballot = s2.2.1 ∧ l[i].src < s2.2.2))) := by
          intro h
          have : (l[i].votes[k].slot == slot && (decide (l[i].votes[k].ballot > s2.2.1) || l[i].votes[k].ballot == s2.2.1 && decide (l[i].src < s2.2.2))) = true := by simpa using h
          rw [this] at hb
          cases hb
        refine hK2 _ (k + 1, s2, c2, _, _) (Gh.keep [4, 5] [] ?_ rfl) ⟨hk, hc2⟩ ?_ (by simp only; omega)
        · simp only [i64_succ hk (by omega), fgt_dead, fgt_same, fgt_nil]
        · simp only [List.drop_eq_getElem_cons hk, List.foldl_cons]
          rw [highV, if_neg hc0]
    · have hk : k = l[i].votes.length := by
        have : ¬ (k : Int) < l[i].votes.length := by simpa using hb
        omega
      rw [hk, List.drop_length, List.foldl_nil, List.drop_zero] at hF2
      repeat (first | with_reducible refine SeqQ_normal _ _ ?_ | with_reducible refine And.imp_right (SeqQ_normal _ _) ?_ | with_reducible refine And.imp_right (And.imp_right (SeqQ_normal _ _)) ?_ | with_reducible refine And.imp_right (And.imp_right (And.imp_right (SeqQ_normal _ _))) ?_ | rw [awp_seq] | simp only [pkS, TyB,  implies_true, forall_const, Nat.reduceSub, Nat.reduceEqDiff, Nat.reduceAdd, Nat.reduceMul, Nat.reduceLeDiff, Nat.reduceLT, Nat.reduceBEq, reduceCtorEq])
      refine hK _ (i + 1, s2, c2, _, _) (Gh.keep [4, 5] [] ?_ rfl) ⟨hi, hc2⟩ (by simp only [List.drop_eq_getElem_cons hi, highestP, List.foldl_cons]; rw [← hF2]) (by simp only; omega)
      simp only [i64_succ hi (by omega), fgt_dead, fgt_same, fgt_nil]
  · have hi : i = l.length := by
      have : ¬ (i : Int) < l.length := by simpa using hge
      omega
    rw [hi, List.drop_length, List.drop_zero] at hF
    have hs : s = highestP slot (fillB, -1, 0) l := hF
    rw [← hs]
    clear hF hK
    repeat (first | with_reducible refine SeqQ_normal _ _ ?_ | with_reducible refine And.imp_right (SeqQ_normal _ _) ?_ | with_reducible refine And.imp_right (And.imp_right (SeqQ_normal _ _)) ?_ | with_reducible refine And.imp_right (And.imp_right (And.imp_right (SeqQ_normal _ _))) ?_ | rw [awp_seq] | simp only [pkS, TyB,  implies_true, forall_const, Nat.reduceSub, Nat.reduceEqDiff, Nat.reduceAdd, Nat.reduceMul, Nat.reduceLeDiff, Nat.reduceLT, Nat.reduceBEq, reduceCtorEq])
    rcases hc with ⟨rfl, h⟩ | rfl
    · simp [rfsLe, rfLe, rosLe_cons, rosLe_nil, roLe, Batch.enc, h]
    · simp [rfsLe, rfLe, rosLe_cons, rosLe_nil, roLe, Batch.enc]
end Go.Proofs.YtgiempmfpmlgnaaGreat

