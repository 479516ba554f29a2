/- Contracts: the walk over batches. -/
import Derived.Test.YtgiempmfpmlgnaaGreatI
namespace Go.Proofs.YtgiempmfpmlgnaaGreat
open Go.Pk
set_option maxRecDepth 100000
set_option linter.unusedSimpArgs false
set_option linter.unusedVariables false
/-- A walk: the tip and the time behind batches that stand from a slot on. -/
def walkP (first : Int) : Nat → Tip → Int → List Batch → Tip × Int
  | _, t, m, [] => (t, m)
  | i, t, m, b :: rest => if (!b.fill && (b.tip.view == t.view && b.tip.slot == t.slot)) = true then walkP first (i + 1) ⟨b.view, first + i⟩ (max m b.time) rest else walkP first (i + 1) t m rest
def fixF (n : Int) : Int := if bad n = true then 0 else n
theorem fixF_of {n : Int} : 0 ≤ fixF n ∧ fixF n ≤ 2305843009213693952 := by
  unfold fixF
  split
  · omega
  · rename_i h
    simp [bad] at h
    omega
set_option maxHeartbeats 1000000 in
theorem walk_ok (t : Tip) (time first : Int) (l : List Batch) (hl : l.length ≤ 9) : CallOK Tryz.prog 60 [.f (.agg [di t.view, di t.slot]), .f (ai time), .f (ai first), .f (al l.length (batchesE l))]
    (fun r o => r = [.agg [.d (iD (walkP (fixF first) 0 t time l).1.view), .d (iD (walkP (fixF first) 0 t time l).1.slot)], .one (.d (iD (walkP (fixF first) 0 t time l).2))] ∧ o = []) := by
  refine callOK_of TOKTy mixed (T := Ty) (n := 39) Tryz.func60 (c := Tryz.f60.body.getD .skip) rfl Tryz.results60 Tryz.ntmps60 Tryz.call60 ?_
  simp only [Tryz.f60, Option.getD]
  have hf1 := fixF_of (n := first)
  repeat' (first | with_reducible refine SeqQ_normal _ _ ?_ | rw [awp_seq] | simp only [pkS, TyB,  implies_true, forall_const, Nat.reduceSub, Nat.reduceEqDiff, Nat.reduceAdd, Nat.reduceMul, Nat.reduceLeDiff, Nat.reduceLT, Nat.reduceBEq, reduceCtorEq] | ((try refine CallRG_tt ?_); apply CallR_of; (solve | exact (within_ok [first] (by simp)) | (refine CallOK.le (within_ok [first] (by simp)) ?_; simp [argsLe, aLe, csLe, cLe]))) | (apply CallRG_of; (focus (intro _; (solve | exact (within_ok [first] (by simp)) | (refine CallOK.le (within_ok [first] (by simp)) ?_; simp [argsLe, aLe, csLe, cLe])))); (focus rfl)) | refine CallRG_no ?_ | refine CondR_of (fun hb => ?_) (fun hb => ?_) | (refine And.intro ?_ ?_; focus ((try with_reducible refine GIm_of ?_); first | (with_reducible rfl) | ((with_reducible first | refine rng_of ?_ | refine ordOK_of ?_ | refine chk_of ?_); kernel_rfl) | (intros; omega) | (intro q p; rw [q, p]; rfl) | (intro q; rw [q]; rfl) | (intro q; simp only [Bool.and_eq_true, decide_eq_true_eq, beq_iff_eq] at q; omega) | (intros; simp_all; done) | (intros; simp [List.range, List.range.loop]; done) | (intros; simp_all [List.range, List.range.loop]; done))) | refine And.intro (fun hg => ?_) (fun hg => ?_) | (with_reducible refine chk_of ?_; kernel_rfl) | fail)
  all_goals
    have he : fixF first = if (!![first].any bad) = true then 0 else first := by simp [fixF]
    rw [hb] at he
    simp only [if_true, Bool.false_eq_true, if_false] at he
    obtain ⟨f1, hf⟩ : ∃ f1, f1 = fixF first := ⟨_, rfl⟩
    rw [← hf] at he hf1 ⊢
    refine LoopR_fn (τ := Nat × Tip × Int × Nat × Nat) (fun s => ⟨[dd, ai s.2.2.1, ai f1, dd, .one (.ptr ⟨4, 0, 0⟩ 0), dd, dd, dd, .one (.ptr ⟨8, 0, 0⟩ 0), dd, dd, dd, dd, dd, dd, dd, al l.length (batchesE l), ai l.length, ai s.1, dd, dd, dd, dd, dd, dd, dd, dd, dd, dd, dd, dd, dd, dd, dd, dd, dd, dd, dd, dd],
      [(4, { next := s.2.2.2.2, l := [some { e := 0, var := true, fz := false, sz := 0, cells := [di s.2.1.view, di s.2.1.slot] }, none, none] }), (8, { next := 1, l := [some { e := 0, var := true, fz := false, sz := 0, cells := [di 0, di 0] }, none, none] }), (13, ⟨1, []⟩), (11, ⟨s.2.2.2.1, []⟩)]⟩)
      (fun s => s.1 ≤ l.length) (fun s => walkP f1 s.1 s.2.1 s.2.2.1 (l.drop s.1)) (fun s => l.length - s.1) (0, t, time, 0, 3) (Gh.keep [4, 8] [11] ?_ rfl) (Nat.zero_le _) ?_
    · simp only [he, fgt_dead, fgt_same, fgt_nil, Int.natCast_zero]
    intro ⟨i, t', m, e, n4⟩ hi0 hF K hK
    simp only at hi0 hF hK ⊢
    repeat (first | with_reducible refine SeqQ_normal _ _ ?_ | with_reducible refine And.imp_right (SeqQ_normal _ _) ?_ | with_reducible refine And.imp_right (And.imp_right (SeqQ_normal _ _)) ?_ | with_reducible refine And.imp_right (And.imp_right (And.imp_right (SeqQ_normal _ _))) ?_ | rw [awp_seq] | simp only [pkS, TyB,  implies_true, forall_const, Nat.reduceSub, Nat.reduceEqDiff, Nat.reduceAdd, Nat.reduceMul, Nat.reduceLeDiff, Nat.reduceLT, Nat.reduceBEq, reduceCtorEq])
    refine CondR_of (fun hlt => ?_) (fun hge => ?_)
    · have hi : i < l.length := by simpa using hlt
      have hat := batches_at hi
      simp only [List.cons_append, List.nil_append] at hat
      have hw : IntKind.i64.wrap (f1 + i) = f1 + i := wrap64 (by omega) (by omega)
      repeat' (first | with_reducible refine SeqQ_normal _ _ ?_ | rw [awp_seq] | simp only [pkS, TyB, batches_len, hat, hw, implies_true, forall_const, Nat.reduceSub, Nat.reduceEqDiff, Nat.reduceAdd, Nat.reduceMul, Nat.reduceLeDiff, Nat.reduceLT, Nat.reduceBEq, reduceCtorEq] | ((try refine CallRG_tt ?_); apply CallR_of; (solve | exact (valid_ok t' l[i]) | (refine CallOK.le (valid_ok t' l[i]) ?_; simp [argsLe, aLe, csLe, cLe]))) | (apply CallRG_of; (focus (intro _; (solve | exact (valid_ok t' l[i]) | (refine CallOK.le (valid_ok t' l[i]) ?_; simp [argsLe, aLe, csLe, cLe])))); (focus rfl)) | refine CallRG_no ?_ | refine CondR_of (fun hb => ?_) (fun hb => ?_) | (refine And.intro ?_ ?_; focus ((try with_reducible refine GIm_of ?_); first | (with_reducible rfl) | ((with_reducible first | refine rng_of ?_ | refine ordOK_of ?_ | refine chk_of ?_); kernel_rfl) | (intros; omega) | (intro q p; rw [q, p]; rfl) | (intro q; rw [q]; rfl) | (intro q; simp only [Bool.and_eq_true, decide_eq_true_eq, beq_iff_eq] at q; omega) | (intros; simp_all; done) | (intros; simp [List.range, List.range.loop]; done) | (intros; simp_all [List.range, List.range.loop]; done))) | refine And.intro (fun hg => ?_) (fun hg => ?_) | (with_reducible refine chk_of ?_; kernel_rfl) | fail)
      · refine hK _ (i + 1, ⟨l[i].view, f1 + i⟩, max m l[i].time, _, _) (Gh.keep [4, 8] [] ?_ rfl) hi (by simp only [List.drop_eq_getElem_cons hi, walkP]; rw [if_pos hb]) (by simp only; omega)
        simp only [i64_succ hi (by omega), fgt_dead, fgt_same, fgt_nil]
      · refine hK _ (i + 1, t', m, _, _) (Gh.keep [4, 8] [] ?_ rfl) hi (by simp only [List.drop_eq_getElem_cons hi, walkP]; rw [if_neg (by rw [hb]; simp)]) (by simp only; omega)
        simp only [i64_succ hi (by omega), fgt_dead, fgt_same, fgt_nil]
    · have hi : i = l.length := by
        have : ¬ (i : Int) < l.length := by simpa using hge
        omega
      rw [hi, List.drop_length, List.drop_zero, walkP] at hF
      repeat (first | with_reducible refine SeqQ_normal _ _ ?_ | with_reducible refine And.imp_right (SeqQ_normal _ _) ?_ | with_reducible refine And.imp_right (And.imp_right (SeqQ_normal _ _)) ?_ | with_reducible refine And.imp_right (And.imp_right (And.imp_right (SeqQ_normal _ _))) ?_ | rw [awp_seq] | simp only [pkS, TyB,  implies_true, forall_const, Nat.reduceSub, Nat.reduceEqDiff, Nat.reduceAdd, Nat.reduceMul, Nat.reduceLeDiff, Nat.reduceLT, Nat.reduceBEq, reduceCtorEq])
      rw [← hF]
set_option maxHeartbeats 1000000 in
theorem walkR_ok (t : Tip) (time first : Int) (l : List Batch) (hl : l.length ≤ 9) : CallOK Tryz.prog 64 [.f (.agg [di t.view, di t.slot]), .f (ai time), .f (ai first), .f (al l.length (batchesE l))]
    (fun r o => r = [.agg [.d (iD (walkP (fixF first) 0 t time l).1.view), .d (iD (walkP (fixF first) 0 t time l).1.slot)], .one (.d (iD (walkP (fixF first) 0 t time l).2))] ∧ o = []) := by
  refine callOK_of TOKTy mixed (T := Ty) (n := 44) Tryz.func64 (c := Tryz.f64.body.getD .skip) rfl Tryz.results64 Tryz.ntmps64 Tryz.call64 ?_
  simp only [Tryz.f64, Option.getD]
  have hf1 := fixF_of (n := first)
  repeat' (first | with_reducible refine SeqQ_normal _ _ ?_ | rw [awp_seq] | simp only [pkS, TyB,  implies_true, forall_const, Nat.reduceSub, Nat.reduceEqDiff, Nat.reduceAdd, Nat.reduceMul, Nat.reduceLeDiff, Nat.reduceLT, Nat.reduceBEq, reduceCtorEq] | ((try refine CallRG_tt ?_); apply CallR_of; (solve | exact (high_ok first 0) | (refine CallOK.le (high_ok first 0) ?_; simp [argsLe, aLe, csLe, cLe]))) | (apply CallRG_of; (focus (intro _; (solve | exact (high_ok first 0) | (refine CallOK.le (high_ok first 0) ?_; simp [argsLe, aLe, csLe, cLe])))); (focus rfl)) | refine CallRG_no ?_ | refine CondR_of (fun hb => ?_) (fun hb => ?_) | (refine And.intro ?_ ?_; focus ((try with_reducible refine GIm_of ?_); first | (with_reducible rfl) | ((with_reducible first | refine rng_of ?_ | refine ordOK_of ?_ | refine chk_of ?_); kernel_rfl) | (intros; omega) | (intro q p; rw [q, p]; rfl) | (intro q; rw [q]; rfl) | (intro q; simp only [Bool.and_eq_true, decide_eq_true_eq, beq_iff_eq] at q; omega) | (intros; simp_all; done) | (intros; simp [List.range, List.range.loop]; done) | (intros; simp_all [List.range, List.range.loop]; done))) | refine And.intro (fun hg => ?_) (fun hg => ?_) | (with_reducible refine chk_of ?_; kernel_rfl) | fail)
  all_goals
    have he : fixF first = if (!(decide (first ≥ 0) && decide (first ≤ High))) = true then 0 else first := by simp [fixF, bad]
    rw [hb] at he
    simp only [if_true, Bool.false_eq_true, if_false] at he
    obtain ⟨f1, hf⟩ : ∃ f1, f1 = fixF first := ⟨_, rfl⟩
    rw [← hf] at he hf1 ⊢
    refine LoopR_fn (τ := Nat × Tip × Int × Nat) (fun s => ⟨[dd, ai s.2.2.1, ai f1, al l.length (batchesE l), .one (.ptr ⟨4, 0, 0⟩ 0), dd, dd, dd, .one (.ptr ⟨8, 0, 0⟩ 0), dd, ai s.1, dd, dd, dd, dd, dd, dd, dd, dd, dd, dd, dd, dd, dd, dd, dd, dd, dd, dd, dd, dd, dd, dd, dd, dd, dd, dd, dd, dd, dd, dd, dd, dd, dd],
      [(4, { next := s.2.2.2, l := [some { e := 0, var := true, fz := false, sz := 0, cells := [di s.2.1.view, di s.2.1.slot] }, none, none] }), (8, { next := 1, l := [some { e := 0, var := true, fz := false, sz := 0, cells := [di 0, di 0] }, none, none] })]⟩)
      (fun s => s.1 ≤ l.length) (fun s => walkP f1 s.1 s.2.1 s.2.2.1 (l.drop s.1)) (fun s => l.length - s.1) (0, t, time, 3) (Gh.keep [4, 8] [] ?_ rfl) (Nat.zero_le _) ?_
    · simp only [he, fgt_dead, fgt_same, fgt_nil, Int.natCast_zero]
    intro ⟨i, t', m, n4⟩ hi0 hF K hK
    simp only at hi0 hF hK ⊢
    repeat (first | with_reducible refine SeqQ_normal _ _ ?_ | with_reducible refine And.imp_right (SeqQ_normal _ _) ?_ | with_reducible refine And.imp_right (And.imp_right (SeqQ_normal _ _)) ?_ | with_reducible refine And.imp_right (And.imp_right (And.imp_right (SeqQ_normal _ _))) ?_ | rw [awp_seq] | simp only [pkS, TyB,  implies_true, forall_const, Nat.reduceSub, Nat.reduceEqDiff, Nat.reduceAdd, Nat.reduceMul, Nat.reduceLeDiff, Nat.reduceLT, Nat.reduceBEq, reduceCtorEq])
    refine CondR_of (fun hlt => ?_) (fun hge => ?_)
    · have hi : i < l.length := by simpa using hlt
      have hat := batches_at hi
      simp only [List.cons_append, List.nil_append] at hat
      have hw : IntKind.i64.wrap (f1 + i) = f1 + i := wrap64 (by omega) (by omega)
      repeat' (first | with_reducible refine SeqQ_normal _ _ ?_ | rw [awp_seq] | simp only [pkS, TyB, batches_len, hat, hw, implies_true, forall_const, Nat.reduceSub, Nat.reduceEqDiff, Nat.reduceAdd, Nat.reduceMul, Nat.reduceLeDiff, Nat.reduceLT, Nat.reduceBEq, reduceCtorEq] | ((try refine CallRG_tt ?_); apply CallR_of; (solve | exact (validR_ok t' l[i]) | (refine CallOK.le (validR_ok t' l[i]) ?_; simp [argsLe, aLe, csLe, cLe]))) | (apply CallRG_of; (focus (intro _; (solve | exact (validR_ok t' l[i]) | (refine CallOK.le (validR_ok t' l[i]) ?_; simp [argsLe, aLe, csLe, cLe])))); (focus rfl)) | refine CallRG_no ?_ | refine CondR_of (fun hb => ?_) (fun hb => ?_) | (refine And.intro ?_ ?_; focus ((try with_reducible refine GIm_of ?_); first | (with_reducible rfl) | ((with_reducible first | refine rng_of ?_ | refine ordOK_of ?_ | refine chk_of ?_); kernel_rfl) | (intros; omega) | (intro q p; rw [q, p]; rfl) | (intro q; rw [q]; rfl) | (intro q; simp only [Bool.and_eq_true, decide_eq_true_eq, beq_iff_eq] at q; omega) | (intros; simp_all; done) | (intros; simp [List.range, List.range.loop]; done) | (intros; simp_all [List.range, List.range.loop]; done))) | refine And.intro (fun hg => ?_) (fun hg => ?_) | (with_reducible refine chk_of ?_; kernel_rfl) | fail)
      · refine hK _ (i + 1, ⟨l[i].view, f1 + i⟩, max m l[i].time, _) (Gh.keep [4, 8] [] ?_ rfl) hi (by simp only [List.drop_eq_getElem_cons hi, walkP]; rw [if_pos hb]) (by simp only; omega)
        simp only [i64_succ hi (by omega), fgt_dead, fgt_same, fgt_nil]
      · refine hK _ (i + 1, t', m, _) (Gh.keep [4, 8] [] ?_ rfl) hi (by simp only [List.drop_eq_getElem_cons hi, walkP]; rw [if_neg (by rw [hb]; simp)]) (by simp only; omega)
        simp only [i64_succ hi (by omega), fgt_dead, fgt_same, fgt_nil]
    · have hi : i = l.length := by
        have : ¬ (i : Int) < l.length := by simpa using hge
        omega
      rw [hi, List.drop_length, List.drop_zero, walkP] at hF
      repeat (first | with_reducible refine SeqQ_normal _ _ ?_ | with_reducible refine And.imp_right (SeqQ_normal _ _) ?_ | with_reducible refine And.imp_right (And.imp_right (SeqQ_normal _ _)) ?_ | with_reducible refine And.imp_right (And.imp_right (And.imp_right (SeqQ_normal _ _))) ?_ | rw [awp_seq] | simp only [pkS, TyB,  implies_true, forall_const, Nat.reduceSub, Nat.reduceEqDiff, Nat.reduceAdd, Nat.reduceMul, Nat.reduceLeDiff, Nat.reduceLT, Nat.reduceBEq, reduceCtorEq])
      rw [← hF]
end Go.Proofs.YtgiempmfpmlgnaaGreat

