/- Contracts: the votes laid by slots. -/
import Derived.Test.YtgiempmfpmlgnaaGreatH
namespace Go.Proofs.YtgiempmfpmlgnaaGreat
open Go.Pk
set_option maxRecDepth 100000
set_option linter.unusedSimpArgs false
set_option linter.unusedVariables false
theorem sub1_8 {a b c d e f g h : C} : sub 0 1 8 [a, b, c, d, e, f, g, h] = [a, b, c, d, e, f, g, h] := rfl
theorem sub1_6 {a b c d e f : C} : sub 0 1 6 [a, b, c, d, e, f] = [a, b, c, d, e, f] := rfl
theorem votesE_snoc (b : List Vote) (v : Vote) : votesE (b ++ [v]) = votesE b ++ v.enc := by simp [votesE]
theorem setV : ∀ (l : List Vote) (i : Nat) (p : Vote), ((((((((((votesE l).map C.d).set (i * 8) (.d (iD p.slot))).set (i * 8 + 1) (.d (iD p.ballot))).set (i * 8 + 1 + 1) (.d (bD p.batch.fill))).set (i * 8 + 1 + 1 + 1) (.d (iD p.batch.view))).set (i * 8 + 1 + 1 + 1 + 1) (.d (iD p.batch.tip.view))).set (i * 8 + 1 + 1 + 1 + 1 + 1) (.d (iD p.batch.tip.slot))).set (i * 8 + 1 + 1 + 1 + 1 + 1 + 1) (.d (iD p.batch.time))).set (i * 8 + 1 + 1 + 1 + 1 + 1 + 1 + 1) (.d (.sl p.batch.reqs.length (reqsE p.batch.reqs)))) = (votesE (l.set i p)).map C.d
  | [], _, _ => rfl
  | q :: l, 0, p => rfl
  | q :: l, i + 1, p => by
    have h := setV l i p
    rw [show (i + 1) * 8 = i * 8 + 1 + 1 + 1 + 1 + 1 + 1 + 1 + 1 by omega]
    rw [List.set_cons_succ]
    show _ = List.map C.d (q.enc ++ votesE (l.set i p))
    rw [List.map_append, ← h]
    rfl
theorem batchesE_snoc (b : List Batch) (v : Batch) : batchesE (b ++ [v]) = batchesE b ++ v.enc := by simp [batchesE]
def hole : Vote := ⟨0, 0, ⟨true, 0, ⟨0, 0⟩, 0, []⟩⟩
def growV (best : List Vote) : Nat → List Vote
  | 0 => best
  | k + 1 => growV (best ++ [hole]) k
def layV (best : List Vote) (a : Nat) (v : Vote) : List Vote :=
  match best[a]? with
  | some w => if (w.slot == 0 || decide (v.ballot > w.ballot)) = true then best.set a v else best
  | none => best
def stepV (done : Int) (best : List Vote) (v : Vote) : List Vote :=
  if v.slot - done - 1 < 0 then best else layV (growV best ((v.slot - done).toNat - best.length)) ((v.slot - done - 1).toNat) v
def bestOf (done : Int) (best : List Vote) (l : List Prom) : List Vote := l.foldl (fun b p => p.votes.foldl (stepV done) b) best
theorem votesC_at {l : List Vote} {i : Nat} (hi : i < l.length) : ((votesE l).map C.d).drop (i * 8) = .d (iD l[i].slot) :: .d (iD l[i].ballot) :: .d (bD l[i].batch.fill) :: .d (iD l[i].batch.view) :: .d (iD l[i].batch.tip.view) :: .d (iD l[i].batch.tip.slot) :: .d (iD l[i].batch.time) :: .d (.sl l[i].batch.reqs.length (reqsE l[i].batch.reqs)) :: (votesE (l.drop (i + 1))).map C.d := by
  rw [← List.map_drop, votes_at hi]; rfl
theorem growV_len : ∀ (k : Nat) (b : List Vote), (growV b k).length = b.length + k
  | 0, _ => rfl
  | k + 1, b => by rw [growV, growV_len k, List.length_append, List.length_singleton]; omega
theorem layV_len {b : List Vote} {a : Nat} {v : Vote} : (layV b a v).length = b.length := by
  unfold layV
  split
  · split <;> simp
  · rfl
def few (b : List Vote) : Prop := ∀ w ∈ b, w.batch.reqs.length ≤ 3
theorem few_app {b : List Vote} (h : few b) : few (b ++ [hole]) := fun w hw => by
  rcases List.mem_append.1 hw with hw | hw
  · exact h w hw
  · rw [List.mem_singleton.1 hw]; exact Nat.zero_le _
theorem few_set {b : List Vote} {i : Nat} {v : Vote} (h : few b) (hv : v.batch.reqs.length ≤ 3) : few (b.set i v) := fun w hw => by
  rcases List.mem_or_eq_of_mem_set hw with hw | rfl
  · exact h w hw
  · exact hv
set_option maxHeartbeats 2000000 in
theorem batches_ok (l : List Prom) (hl : l.length ≤ 7) (hok : ∀ p ∈ l, p.ok ∧ p.votes.length ≤ 9) (done : Int) (hd : 0 ≤ done ∧ done ≤ High)
    (hv : ∀ p ∈ l, ∀ v ∈ p.votes, 0 ≤ v.slot ∧ v.slot ≤ done + 9 ∧ v.batch.reqs.length ≤ 3) :
    CallOK Tryz.prog 59 [.f (al l.length (promisesE l)), .f (ai done)] (fun r o => r = [.one (.own 6 (bestOf done [] l).length (batchesE ((bestOf done [] l).map Vote.batch)) false)] ∧ o = []) := by
  refine CallOK.nil ?_
  refine callOK_of TOKTy mixed (T := Ty) (n := 84) Tryz.func59 (c := Tryz.f59.body.getD .skip) rfl Tryz.results59 Tryz.ntmps59 Tryz.call59 ?_
  simp only [Tryz.f59, Option.getD]
  have hdH : done ≤ 2305843009213693952 := hd.2
  repeat (first | with_reducible refine SeqQ_normal _ _ ?_ | with_reducible refine And.imp_right (SeqQ_normal _ _) ?_ | with_reducible refine And.imp_right (And.imp_right (SeqQ_normal _ _)) ?_ | with_reducible refine And.imp_right (And.imp_right (And.imp_right (SeqQ_normal _ _))) ?_ | rw [awp_seq] | simp only [pkS, TyB,  implies_true, forall_const, Nat.reduceSub, Nat.reduceEqDiff, Nat.reduceAdd, Nat.reduceMul, Nat.reduceLeDiff, Nat.reduceLT, Nat.reduceBEq, reduceCtorEq])
  refine LoopR_fn (τ := Nat × List Vote × Nat × Nat × Nat × Nat × Nat) (fun t => ⟨[al l.length (promisesE l), ai done, dd, dd, anil, .one (.own ⟨5, 1, t.2.2.1⟩ 0 t.2.1.length), dd, dd, dd, dd, dd, dd, dd, dd, dd, al l.length (promisesE l), ai l.length, ai t.1, dd, dd, dd, dd, dd, dd, dd, dd, dd, dd, dd, dd, dd, dd, dd, dd, dd, dd, dd, dd, dd, dd, dd, dd, dd, dd, dd, dd, dd, dd, dd, dd, dd, dd, dd, dd, dd, dd, dd, dd, dd, dd, dd, dd, dd, dd, dd, dd, dd, dd, dd, dd, dd, dd, dd, dd, dd, dd, dd, dd, dd, dd, dd, dd, dd, dd],
    [(5, { next := t.2.2.2.1, l := [none, some { e := t.2.2.1, var := false, fz := false, sz := 8, cells := (votesE t.2.1).map C.d }] }), (7, ⟨t.2.2.2.2.1, []⟩), (9, ⟨t.2.2.2.2.2.1, []⟩), (42, ⟨t.2.2.2.2.2.2, []⟩)]⟩)
    (fun t => t.1 ≤ l.length ∧ t.2.1.length ≤ 9 ∧ few t.2.1) (fun t => bestOf done t.2.1 (l.drop t.1)) (fun t => l.length - t.1) (0, [], 0, 1, 0, 0, 0) ((Gh.nil (i := 5) (s := 5) (sz := 8) rfl).trans (Gh.keep [5] [7, 9, 42] ?_ rfl)) ⟨Nat.zero_le _, Nat.zero_le _, fun w hw => by cases hw⟩ ?_
  · simp only [List.set_cons_succ, List.set_cons_zero, show nxt [] 5 = 0 from rfl, List.length_nil, fgt_dead, fgt_same, fgt_nil, Int.natCast_zero]
  intro ⟨i, best, e5, n5, e7, e9, e42⟩ ⟨hi0, hb0, hf0⟩ hF K hK
  simp only at hi0 hb0 hF hK ⊢
  repeat (first | with_reducible refine SeqQ_normal _ _ ?_ | with_reducible refine And.imp_right (SeqQ_normal _ _) ?_ | with_reducible refine And.imp_right (And.imp_right (SeqQ_normal _ _)) ?_ | with_reducible refine And.imp_right (And.imp_right (And.imp_right (SeqQ_normal _ _))) ?_ | rw [awp_seq] | simp only [pkS, TyB,  implies_true, forall_const, Nat.reduceSub, Nat.reduceEqDiff, Nat.reduceAdd, Nat.reduceMul, Nat.reduceLeDiff, Nat.reduceLT, Nat.reduceBEq, reduceCtorEq])
  refine CondR_of (fun hlt => ?_) (fun hge => ?_)
  · have hi : i < l.length := by simpa using hlt
    have hat := promises_at hi
    simp only [List.cons_append, List.nil_append] at hat
    have hpo := hok _ (List.getElem_mem hi)
    have hpv := hv _ (List.getElem_mem hi)
    rw [List.drop_eq_getElem_cons hi, bestOf, List.foldl_cons] at hF
    repeat' (first | with_reducible refine SeqQ_normal _ _ ?_ | rw [awp_seq] | simp only [pkS, TyB, promises_len, hat, implies_true, forall_const, Nat.reduceSub, Nat.reduceEqDiff, Nat.reduceAdd, Nat.reduceMul, Nat.reduceLeDiff, Nat.reduceLT, Nat.reduceBEq, reduceCtorEq] | refine CallRG_no ?_ | refine CondR_of (fun hb => ?_) (fun hb => ?_) | (refine And.intro ?_ ?_; focus ((try with_reducible refine GIm_of ?_); first | (with_reducible rfl) | ((with_reducible first | refine rng_of ?_ | refine ordOK_of ?_ | refine chk_of ?_); kernel_rfl) | (intros; omega) | (intro q p; rw [q, p]; rfl) | (intro q; rw [q]; rfl) | (intro q; simp only [Bool.and_eq_true, decide_eq_true_eq, beq_iff_eq] at q; omega) | (intros; simp_all; done) | (intros; simp [List.range, List.range.loop]; done) | (intros; simp_all [List.range, List.range.loop]; done))) | refine And.intro (fun hg => ?_) (fun hg => ?_) | (with_reducible refine chk_of ?_; kernel_rfl) | fail)
    refine LoopR_fn (τ := Nat × List Vote × Nat × Nat × Nat × Nat) (fun t => ⟨[al l.length (promisesE l), ai done, dd, dd, anil, .one (.own ⟨5, 1, t.2.2.1⟩ 0 t.2.1.length), dd, dd, dd, dd, dd, dd, dd, dd, dd, al l.length (promisesE l), ai l.length, ai i, dd, dd, dd, dd, .one (.d (.sl l[i].votes.length (votesE l[i].votes))), ai l[i].votes.length, ai t.1, dd, dd, dd, dd, dd, dd, dd, dd, dd, dd, dd, dd, dd, dd, dd, dd, dd, dd, dd, dd, dd, dd, dd, dd, dd, dd, dd, dd, dd, dd, dd, dd, dd, dd, dd, dd, dd, dd, dd, dd, dd, dd, dd, dd, dd, dd, dd, dd, dd, dd, dd, dd, dd, dd, dd, dd, dd, dd, dd],
      [(5, { next := t.2.2.2.1, l := [none, some { e := t.2.2.1, var := false, fz := false, sz := 8, cells := (votesE t.2.1).map C.d }] }), (7, ⟨e7 + 1 + 6, []⟩), (9, ⟨t.2.2.2.2.1, []⟩), (42, ⟨t.2.2.2.2.2, []⟩)]⟩)
      (fun t => t.1 ≤ l[i].votes.length ∧ t.2.1.length ≤ 9 ∧ few t.2.1) (fun t => (l[i].votes.drop t.1).foldl (stepV done) t.2.1) (fun t => l[i].votes.length - t.1) (0, best, e5, n5, e9, e42) (Gh.keep [5] [] ?_ rfl) ⟨Nat.zero_le _, hb0, hf0⟩ ?_
    · simp only [fgt_dead, fgt_same, fgt_nil, Int.natCast_zero]
    intro ⟨k, best2, e5, n5, e9, e42⟩ ⟨hk0, hb2, hf2⟩ hF2 K2 hK2
    simp only at hk0 hb2 hF2 hK2 ⊢
    repeat (first | with_reducible refine SeqQ_normal _ _ ?_ | with_reducible refine And.imp_right (SeqQ_normal _ _) ?_ | with_reducible refine And.imp_right (And.imp_right (SeqQ_normal _ _)) ?_ | with_reducible refine And.imp_right (And.imp_right (And.imp_right (SeqQ_normal _ _))) ?_ | rw [awp_seq] | simp only [pkS, TyB,  implies_true, forall_const, Nat.reduceSub, Nat.reduceEqDiff, Nat.reduceAdd, Nat.reduceMul, Nat.reduceLeDiff, Nat.reduceLT, Nat.reduceBEq, reduceCtorEq])
    refine CondR_of (fun hlt2 => ?_) (fun hge2 => ?_)
    · have hk : k < l[i].votes.length := by simpa using hlt2
      have hat2 := votes_at hk
      simp only [List.cons_append, List.nil_append] at hat2
      have hvk := hpv _ (List.getElem_mem hk)
      have hstep : (l[i].votes.drop k).foldl (stepV done) best2 = (l[i].votes.drop (k + 1)).foldl (stepV done) (stepV done best2 l[i].votes[k]) := by rw [List.drop_eq_getElem_cons hk, List.foldl_cons]
      have hw1 : IntKind.i64.wrap (IntKind.i64.wrap (l[i].votes[k].slot - done) - 1) = l[i].votes[k].slot - done - 1 := by
        rw [wrap64 (n := l[i].votes[k].slot - done) (by omega) (by omega), wrap64 (by omega) (by omega)]
      repeat' (first | with_reducible refine SeqQ_normal _ _ ?_ | rw [awp_seq] | simp only [pkS, TyB, votes_len, hat2, hw1, implies_true, forall_const, Nat.reduceSub, Nat.reduceEqDiff, Nat.reduceAdd, Nat.reduceMul, Nat.reduceLeDiff, Nat.reduceLT, Nat.reduceBEq, reduceCtorEq] | refine CallRG_no ?_ | refine CondR_of (fun hb => ?_) (fun hb => ?_) | (refine And.intro ?_ ?_; focus ((try with_reducible refine GIm_of ?_); first | (with_reducible rfl) | ((with_reducible first | refine rng_of ?_ | refine ordOK_of ?_ | refine chk_of ?_); kernel_rfl) | (intros; omega) | (intro q p; rw [q, p]; rfl) | (intro q; rw [q]; rfl) | (intro q; simp only [Bool.and_eq_true, decide_eq_true_eq, beq_iff_eq] at q; omega) | (intros; simp_all; done) | (intros; simp [List.range, List.range.loop]; done) | (intros; simp_all [List.range, List.range.loop]; done))) | refine And.intro (fun hg => ?_) (fun hg => ?_) | (with_reducible refine chk_of ?_; kernel_rfl) | fail)
      · have hneg : l[i].votes[k].slot - done - 1 < 0 := by simpa using hb
        refine hK2 _ (k + 1, best2, _, _, _, _) (Gh.keep [5] [] ?_ rfl) ⟨hk, hb2, hf2⟩ (by simp only; rw [hstep, stepV, if_pos hneg]) (by simp only; omega)
        simp only [i64_succ hk (by omega), fgt_dead, fgt_same, fgt_nil]
      rename_i hneg
      have hneg : ¬ l[i].votes[k].slot - done - 1 < 0 := by simpa using hb
      rw [stepV, if_neg hneg] at hstep
      obtain ⟨a, ha⟩ : ∃ a : Nat, (a : Int) = l[i].votes[k].slot - done - 1 := ⟨(l[i].votes[k].slot - done - 1).toNat, by omega⟩
      have ha1 : (l[i].votes[k].slot - done).toNat = a + 1 := by omega
      have ha2 : (l[i].votes[k].slot - done - 1).toNat = a := by omega
      rw [ha1, ha2] at hstep
      have ha9 : a < 9 := by omega
      refine LoopR_fn (τ := List Vote × Nat × Nat × Nat) (fun t => ⟨[al l.length (promisesE l), ai done, dd, dd, anil, .one (.own ⟨5, 1, t.2.1⟩ 0 t.1.length), dd, dd, dd, .one (.ptr ⟨9, 0, e9⟩ 0), ai a, dd, dd, dd, dd, al l.length (promisesE l), ai l.length, ai i, dd, dd, dd, dd, .one (.d (.sl l[i].votes.length (votesE l[i].votes))), ai l[i].votes.length, ai k, dd, dd, dd, dd, dd, dd, dd, dd, dd, dd, dd, dd, dd, dd, dd, dd, dd, dd, dd, dd, dd, dd, dd, dd, dd, dd, dd, dd, dd, dd, dd, dd, dd, dd, dd, dd, dd, dd, dd, dd, dd, dd, dd, dd, dd, dd, dd, dd, dd, dd, dd, dd, dd, dd, dd, dd, dd, dd, dd],
        [(5, { next := t.2.2.1, l := [none, some { e := t.2.1, var := false, fz := false, sz := 8, cells := (votesE t.1).map C.d }] }), (7, ⟨e7 + 1 + 6, []⟩), (9, ⟨e9 + 1 + 8, [some { e := e9, var := true, fz := false, sz := 0, cells := l[i].votes[k].enc.map C.d }, none, none, none, none, none, none, none, none]⟩), (42, ⟨t.2.2.2, []⟩)]⟩)
        (fun t => t.1.length ≤ 9 ∧ few t.1) (fun t => growV t.1 (a + 1 - t.1.length)) (fun t => a + 1 - t.1.length) (best2, e5, n5, e42) (Gh.keep [5, 9] [] ?_ rfl) ⟨hb2, hf2⟩ ?_
      · simp only [ha, fgt_dead, fgt_same, fgt_nil, Int.natCast_zero]
      intro ⟨best3, e5, n5, e42⟩ ⟨hb3, hf3⟩ hF3 K3 hK3
      simp only at hb3 hF3 hK3 ⊢
      repeat (first | with_reducible refine SeqQ_normal _ _ ?_ | with_reducible refine And.imp_right (SeqQ_normal _ _) ?_ | with_reducible refine And.imp_right (And.imp_right (SeqQ_normal _ _)) ?_ | with_reducible refine And.imp_right (And.imp_right (And.imp_right (SeqQ_normal _ _))) ?_ | rw [awp_seq] | simp only [pkS, TyB,  implies_true, forall_const, Nat.reduceSub, Nat.reduceEqDiff, Nat.reduceAdd, Nat.reduceMul, Nat.reduceLeDiff, Nat.reduceLT, Nat.reduceBEq, reduceCtorEq])
      refine CondR_of (fun hlt3 => ?_) (fun hge3 => ?_)
      · have h3 : best3.length ≤ a := by simpa using hlt3
        have ht : (votesE best3).take (best3.length * 8) = votesE best3 := List.take_of_length_le (by rw [votes_len]; omega)
        have hsn : votesE best3 ++ [D.v (Value.int IntKind.i64 0), D.v (Value.int IntKind.i64 0), D.v (Value.bool true), D.v (Value.int IntKind.i64 0), D.v (Value.int IntKind.i64 0), D.v (Value.int IntKind.i64 0), D.v (Value.int IntKind.i64 0), D.sl 0 []] = votesE (best3 ++ [hole]) := (votesE_snoc best3 hole).symm
        repeat' (first | with_reducible refine SeqQ_normal _ _ ?_ | rw [awp_seq] | simp only [pkS, TyB, sub1_8, toDs_map, sub_map, Nat.zero_mul, List.drop_zero, ht, hsn, implies_true, forall_const, Nat.reduceSub, Nat.reduceEqDiff, Nat.reduceAdd, Nat.reduceMul, Nat.reduceLeDiff, Nat.reduceLT, Nat.reduceBEq, reduceCtorEq] | refine CallRG_no ?_ | refine CondR_of (fun hb => ?_) (fun hb => ?_) | (refine And.intro ?_ ?_; focus ((try with_reducible refine GIm_of ?_); first | (with_reducible rfl) | ((with_reducible first | refine rng_of ?_ | refine ordOK_of ?_ | refine chk_of ?_); kernel_rfl) | (intros; omega) | (intro q p; rw [q, p]; rfl) | (intro q; rw [q]; rfl) | (intro q; simp only [Bool.and_eq_true, decide_eq_true_eq, beq_iff_eq] at q; omega) | (intros; simp_all; done) | (intros; simp [List.range, List.range.loop]; done) | (intros; simp_all [List.range, List.range.loop]; done))) | refine And.intro (fun hg => ?_) (fun hg => ?_) | (with_reducible refine chk_of ?_; kernel_rfl) | fail)
        refine hK3 _ (best3 ++ [hole], _, _, _) (Gh.keep [5, 9] [] ?_ rfl) ⟨by simp only [List.length_append, List.length_singleton]; omega, few_app hf3⟩ (by simp only [List.length_append, List.length_singleton]; rw [show a + 1 - best3.length = (a + 1 - (best3.length + 1)) + 1 by omega, growV]) (by simp only [List.length_append, List.length_singleton]; omega)
        simp only [List.length_append, List.length_singleton, fgt_dead, fgt_same, fgt_nil]
      · have h3 : a + 1 - best3.length = 0 := by
          have : ¬ (best3.length : Int) ≤ a := by simpa using hge3
          omega
        have h3' : a < best3.length := by
          have : ¬ (best3.length : Int) ≤ a := by simpa using hge3
          omega
        rw [h3, growV] at hF3
        have hc := votesC_at h3'
        have hc1 : ((votesE best3).map C.d).drop (a * 8 + 1) = .d (iD best3[a].ballot) :: .d (bD best3[a].batch.fill) :: .d (iD best3[a].batch.view) :: .d (iD best3[a].batch.tip.view) :: .d (iD best3[a].batch.tip.slot) :: .d (iD best3[a].batch.time) :: .d (.sl best3[a].batch.reqs.length (reqsE best3[a].batch.reqs)) :: (votesE (best3.drop (a + 1))).map C.d := by rw [← List.drop_drop, hc]; rfl
        repeat' (first | with_reducible refine SeqQ_normal _ _ ?_ | rw [awp_seq] | simp only [pkS, TyB, hc, hc1, votes_len, List.length_map, implies_true, forall_const, Nat.reduceSub, Nat.reduceEqDiff, Nat.reduceAdd, Nat.reduceMul, Nat.reduceLeDiff, Nat.reduceLT, Nat.reduceBEq, reduceCtorEq] | refine CallRG_no ?_ | refine CondR_of (fun hb => ?_) (fun hb => ?_) | (refine And.intro ?_ ?_; focus ((try with_reducible refine GIm_of ?_); first | (with_reducible rfl) | ((with_reducible first | refine rng_of ?_ | refine ordOK_of ?_ | refine chk_of ?_); kernel_rfl) | (intros; omega) | (intro q p; rw [q, p]; rfl) | (intro q; rw [q]; rfl) | (intro q; simp only [Bool.and_eq_true, decide_eq_true_eq, beq_iff_eq] at q; omega) | (intros; simp_all; done) | (intros; simp [List.range, List.range.loop]; done) | (intros; simp_all [List.range, List.range.loop]; done))) | refine And.intro (fun hg => ?_) (fun hg => ?_) | (with_reducible refine chk_of ?_; kernel_rfl) | fail)
        · refine hK2 _ (k + 1, best3.set a l[i].votes[k], _, _, _, _) (Gh.keep [5] [] ?_ (by rw [setV]; rfl)) ⟨hk, by simpa using hb3, few_set hf3 hvk.2.2⟩ ?_ (by simp only; omega)
          · simp only [List.length_set, i64_succ hk (by omega), fgt_dead, fgt_same, fgt_nil]
          · simp only
            rw [hstep, ← hF3, layV, List.getElem?_eq_getElem h3']
            simp only
            rw [if_pos hb]
        · refine hK2 _ (k + 1, best3, _, _, _, _) (Gh.keep [5] [] ?_ rfl) ⟨hk, hb3, hf3⟩ ?_ (by simp only; omega)
          · simp only [i64_succ hk (by omega), fgt_dead, fgt_same, fgt_nil]
          · simp only
            rw [hstep, ← hF3, layV, List.getElem?_eq_getElem h3']
            simp only
            rw [if_neg (by rw [hb]; simp)]
    · have hk : k = l[i].votes.length := by
        have : ¬ (k : Int) < l[i].votes.length := by simpa using hge2
        omega
      rw [hk, List.drop_length, List.foldl_nil, List.drop_zero] at hF2
      repeat (first | with_reducible refine SeqQ_normal _ _ ?_ | with_reducible refine And.imp_right (SeqQ_normal _ _) ?_ | with_reducible refine And.imp_right (And.imp_right (SeqQ_normal _ _)) ?_ | with_reducible refine And.imp_right (And.imp_right (And.imp_right (SeqQ_normal _ _))) ?_ | rw [awp_seq] | simp only [pkS, TyB,  implies_true, forall_const, Nat.reduceSub, Nat.reduceEqDiff, Nat.reduceAdd, Nat.reduceMul, Nat.reduceLeDiff, Nat.reduceLT, Nat.reduceBEq, reduceCtorEq])
      refine hK _ (i + 1, best2, _, _, _, _, _) (Gh.keep [5] [] ?_ rfl) ⟨hi, hb2, hf2⟩ (by simp only [List.drop_eq_getElem_cons hi, bestOf, List.foldl_cons]; rw [← hF2]) (by simp only; omega)
      simp only [i64_succ hi (by omega), fgt_dead, fgt_same, fgt_nil]
  · have hi : i = l.length := by
      have : ¬ (i : Int) < l.length := by simpa using hge
      omega
    rw [hi, List.drop_length, List.drop_zero] at hF
    have hbest : best = bestOf done [] l := hF
    rw [← hbest]
    clear hF hK hv hok
    repeat (first | with_reducible refine SeqQ_normal _ _ ?_ | with_reducible refine And.imp_right (SeqQ_normal _ _) ?_ | with_reducible refine And.imp_right (And.imp_right (SeqQ_normal _ _)) ?_ | with_reducible refine And.imp_right (And.imp_right (And.imp_right (SeqQ_normal _ _))) ?_ | rw [awp_seq] | simp only [pkS, TyB,  implies_true, forall_const, Nat.reduceSub, Nat.reduceEqDiff, Nat.reduceAdd, Nat.reduceMul, Nat.reduceLeDiff, Nat.reduceLT, Nat.reduceBEq, reduceCtorEq])
    refine LoopR_fn (τ := Nat × List Batch × Nat × Nat × Nat × Nat × Nat × Nat) (fun t => ⟨[dd, dd, dd, dd, anil, .one (.own ⟨5, 1, e5⟩ 0 best.length), dd, dd, dd, dd, dd, .one (.own ⟨11, 1, t.2.2.1⟩ 0 t.2.1.length), dd, dd, dd, dd, dd, dd, dd, dd, dd, dd, dd, dd, dd, dd, dd, dd, dd, dd, dd, dd, dd, dd, dd, dd, dd, dd, dd, dd, dd, dd, dd, dd, dd, dd, dd, dd, dd, dd, dd, dd, dd, dd, dd, dd, dd, dd, dd, dd, dd, dd, dd, dd, dd, dd, .one (.own ⟨5, 1, e5⟩ 0 best.length), ai best.length, ai t.1, dd, dd, dd, dd, dd, dd, dd, dd, dd, dd, dd, dd, dd, dd, dd],
      [(5, { next := n5, l := [none, some { e := e5, var := false, fz := false, sz := 8, cells := (votesE best).map C.d }] }), (7, ⟨e7, []⟩), (9, ⟨e9, []⟩), (42, ⟨e42, []⟩), (11, { next := t.2.2.2.1, l := [none, some { e := t.2.2.1, var := false, fz := false, sz := 6, cells := (batchesE t.2.1).map C.d }] }), (13, ⟨t.2.2.2.2.1, []⟩), (14, ⟨t.2.2.2.2.2.1, []⟩), (76, ⟨t.2.2.2.2.2.2.1, []⟩), (80, ⟨t.2.2.2.2.2.2.2, []⟩)]⟩)
      (fun t => t.1 ≤ best.length ∧ t.2.1.length = t.1) (fun t => t.2.1 ++ (best.drop t.1).map Vote.batch) (fun t => best.length - t.1) (0, [], 0, 1, 0, 0, 0, 0) ((Gh.nil (i := 11) (s := 11) (sz := 6) rfl).trans (Gh.keep [5, 11] [13, 14, 76, 80] ?_ rfl)) ⟨Nat.zero_le _, rfl⟩ ?_
    · simp only [List.set_cons_succ, List.set_cons_zero, List.length_nil, nxt, findR, Nat.reduceEqDiff, if_false, fgt_dead, fgt_same, fgt_nil, Int.natCast_zero]
    intro ⟨m, made, e11, n11, e13, e14, e76, e80⟩ ⟨hm0, hml⟩ hF K hK
    simp only at hm0 hml hF hK ⊢
    repeat (first | with_reducible refine SeqQ_normal _ _ ?_ | with_reducible refine And.imp_right (SeqQ_normal _ _) ?_ | with_reducible refine And.imp_right (And.imp_right (SeqQ_normal _ _)) ?_ | with_reducible refine And.imp_right (And.imp_right (And.imp_right (SeqQ_normal _ _))) ?_ | rw [awp_seq] | simp only [pkS, TyB,  implies_true, forall_const, Nat.reduceSub, Nat.reduceEqDiff, Nat.reduceAdd, Nat.reduceMul, Nat.reduceLeDiff, Nat.reduceLT, Nat.reduceBEq, reduceCtorEq])
    refine CondR_of (fun hlt => ?_) (fun hge => ?_)
    · have hm : m < best.length := by simpa using hlt
      have hc := votesC_at hm
      have hfm := hf0 _ (List.getElem_mem hm)
      have ht5 : (reqsE best[m].batch.reqs).take (best[m].batch.reqs.length * 5) = reqsE best[m].batch.reqs := List.take_of_length_le (by rw [reqs_len]; omega)
      have ht6 : (batchesE made).take (made.length * 6) = batchesE made := List.take_of_length_le (by rw [batches_len]; omega)
      repeat' (first | with_reducible refine SeqQ_normal _ _ ?_ | rw [awp_seq] | simp only [pkS, TyB, hc, votes_len, List.length_map, toDs_map, sub_map, Nat.zero_mul, List.drop_zero, ht5, ht6, sub1_6, implies_true, forall_const, Nat.reduceSub, Nat.reduceEqDiff, Nat.reduceAdd, Nat.reduceMul, Nat.reduceLeDiff, Nat.reduceLT, Nat.reduceBEq, reduceCtorEq] | ((try refine CallRG_tt ?_); apply CallR_of; (solve | exact (cloneReq_ok best[m].batch.reqs.length (reqsE best[m].batch.reqs) reqs_len (by omega)) | (refine CallOK.le (cloneReq_ok best[m].batch.reqs.length (reqsE best[m].batch.reqs) reqs_len (by omega)) ?_; simp [argsLe, aLe, csLe, cLe]))) | (apply CallRG_of; (focus (intro _; (solve | exact (cloneReq_ok best[m].batch.reqs.length (reqsE best[m].batch.reqs) reqs_len (by omega)) | (refine CallOK.le (cloneReq_ok best[m].batch.reqs.length (reqsE best[m].batch.reqs) reqs_len (by omega)) ?_; simp [argsLe, aLe, csLe, cLe])))); (focus rfl)) | refine CallRG_no ?_ | refine CondR_of (fun hb => ?_) (fun hb => ?_) | (refine And.intro ?_ ?_; focus ((try with_reducible refine GIm_of ?_); first | (with_reducible rfl) | ((with_reducible first | refine rng_of ?_ | refine ordOK_of ?_ | refine chk_of ?_); kernel_rfl) | (intros; omega) | (intro q p; rw [q, p]; rfl) | (intro q; rw [q]; rfl) | (intro q; simp only [Bool.and_eq_true, decide_eq_true_eq, beq_iff_eq] at q; omega) | (intros; simp_all; done) | (intros; simp [List.range, List.range.loop]; done) | (intros; simp_all [List.range, List.range.loop]; done))) | refine And.intro (fun hg => ?_) (fun hg => ?_) | (with_reducible refine chk_of ?_; kernel_rfl) | fail)
      refine hK _ (m + 1, made ++ [best[m].batch], _, _, _, _, _, _) (Gh.keep [5, 11] [] ?_ (by simp only [dropAll, List.map_nil, List.append_nil]; rw [batchesE_snoc]; rfl)) ⟨hm, by simp [hml]⟩ (by simp only [List.drop_eq_getElem_cons hm, List.map_cons, List.append_assoc, List.singleton_append]) (by simp only; omega)
      simp only [i64_succ hm (by omega), List.length_append, List.length_singleton, fgt_dead, fgt_same, fgt_nil]
    · have hm : m = best.length := by
        have : ¬ (m : Int) < best.length := by simpa using hge
        omega
      rw [hm, List.drop_length, List.map_nil, List.append_nil, List.drop_zero, List.nil_append] at hF
      have ht6 : (batchesE made).take (made.length * 6) = batchesE made := List.take_of_length_le (by rw [batches_len]; omega)
      repeat (first | with_reducible refine SeqQ_normal _ _ ?_ | with_reducible refine And.imp_right (SeqQ_normal _ _) ?_ | with_reducible refine And.imp_right (And.imp_right (SeqQ_normal _ _)) ?_ | with_reducible refine And.imp_right (And.imp_right (And.imp_right (SeqQ_normal _ _))) ?_ | rw [awp_seq] | simp only [pkS, TyB, toDs_map, sub_map, Nat.zero_mul, List.drop_zero, ht6, List.contains_nil, List.length_map, batches_len, implies_true, forall_const, Nat.reduceSub, Nat.reduceEqDiff, Nat.reduceAdd, Nat.reduceMul, Nat.reduceLeDiff, Nat.reduceLT, Nat.reduceBEq, reduceCtorEq])
      rw [hF, List.length_map]
      simp [rfs1, roLe]
end Go.Proofs.YtgiempmfpmlgnaaGreat

