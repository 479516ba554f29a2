/- Contracts: what promises make, first part. -/
import Derived.Test.YtgiempmfpmlgnaaGreatE
namespace Go.Proofs.YtgiempmfpmlgnaaGreat
open Go.Pk
set_option maxRecDepth 100000
set_option linter.unusedSimpArgs false
set_option linter.unusedVariables false
theorem take_promises {l : List Prom} {i : Nat} (hi : i ≤ l.length) : (promisesE l).take (i * 6) = promisesE (l.take i) := by
  have h : promisesE l = promisesE (l.take i) ++ promisesE (l.drop i) := by rw [← List.flatMap_append, List.take_append_drop]
  rw [h, List.take_left' (by rw [promises_len, List.length_take]; congr 1; omega)]
/-- Promises that may be, of unlike replicas. -/
def toldMay (l : List Prom) : Nat → List Prom → Bool
  | _, [] => true
  | i, p :: rest => if (!Prom.may p || (l.take i).any (fun o => o.src == p.src)) = true then false else toldMay l (i + 1) rest
theorem told_ok (l : List Prom) (hl : l.length < 2 ^ 42) (hok : ∀ p ∈ l, p.ok) : CallOK Tryz.prog 55 [.f (al l.length (promisesE l))] (fun r o => r = [rb (toldMay l 0 l)] ∧ o = []) := by
  refine callOK_of TOKTy mixed (T := Ty) (n := 23) Tryz.func55 (c := Tryz.f55.body.getD .skip) rfl Tryz.results55 Tryz.ntmps55 Tryz.call55 ?_
  simp only [Tryz.f55, Option.getD]
  repeat (first | with_reducible refine SeqQ_normal _ _ ?_ | with_reducible refine And.imp_right (SeqQ_normal _ _) ?_ | with_reducible refine And.imp_right (And.imp_right (SeqQ_normal _ _)) ?_ | with_reducible refine And.imp_right (And.imp_right (And.imp_right (SeqQ_normal _ _))) ?_ | rw [awp_seq] | simp only [pkS, TyB,  implies_true, forall_const, Nat.reduceSub, Nat.reduceEqDiff, Nat.reduceAdd, Nat.reduceMul, Nat.reduceLeDiff, Nat.reduceLT, Nat.reduceBEq, reduceCtorEq])
  refine LoopR_fn (τ := Nat × Nat) (fun t => ⟨[al l.length (promisesE l), dd, ab false, dd, dd, al l.length (promisesE l), ai l.length, ai t.1, dd, dd, dd, dd, dd, dd, dd, dd, dd, dd, dd, dd, dd, dd, dd],
    [(4, ⟨t.2, []⟩)]⟩)
    (fun t => t.1 ≤ l.length) (fun t => toldMay l t.1 (l.drop t.1)) (fun t => l.length - t.1) (0, 0) (Gh.keep [] [4] ?_ rfl) (Nat.zero_le _) ?_
  · simp only [fgt_dead, fgt_same, fgt_nil, Int.natCast_zero]
  intro ⟨i, e⟩ hi0 hF K hK
  simp only at hi0 hF hK ⊢
  repeat (first | with_reducible refine SeqQ_normal _ _ ?_ | with_reducible refine And.imp_right (SeqQ_normal _ _) ?_ | with_reducible refine And.imp_right (And.imp_right (SeqQ_normal _ _)) ?_ | with_reducible refine And.imp_right (And.imp_right (And.imp_right (SeqQ_normal _ _))) ?_ | rw [awp_seq] | simp only [pkS, TyB,  implies_true, forall_const, Nat.reduceSub, Nat.reduceEqDiff, Nat.reduceAdd, Nat.reduceMul, Nat.reduceLeDiff, Nat.reduceLT, Nat.reduceBEq, reduceCtorEq])
  refine CondR_of (fun hlt => ?_) (fun hge => ?_)
  · have hi : i < l.length := by simpa using hlt
    rw [List.drop_eq_getElem_cons hi, toldMay] at hF
    have hat := promises_at hi
    simp only [List.cons_append, List.nil_append] at hat
    have hpo := hok _ (List.getElem_mem hi)
    have hlt' : (l.take i).length = i := by rw [List.length_take]; omega
    have hc := contains_promise (l.take i) (by omega) (fun o => o.src == l[i].src) 77 [.elt l[i].enc] rfl rfl (fun x _ => sameFrom_ok x _)
    rw [hlt', ← take_promises hi0] at hc
    repeat' (first | with_reducible refine SeqQ_normal _ _ ?_ | rw [awp_seq] | simp only [pkS, TyB, promises_len, hat, Int.toNat_zero, Int.toNat_natCast, Nat.sub_zero, Int.natCast_zero, implies_true, forall_const, Nat.reduceSub, Nat.reduceEqDiff, Nat.reduceAdd, Nat.reduceMul, Nat.reduceLeDiff, Nat.reduceLT, Nat.reduceBEq, reduceCtorEq] | ((try refine CallRG_tt ?_); apply CallR_of; (solve | exact (promMay_ok _ hpo) | exact (hc) | (refine CallOK.le (promMay_ok _ hpo) ?_; simp [argsLe, aLe, csLe, cLe]) | (refine CallOK.le (hc) ?_; simp [argsLe, aLe, csLe, cLe]))) | (apply CallRG_of; (focus (intro _; (solve | exact (promMay_ok _ hpo) | exact (hc) | (refine CallOK.le (promMay_ok _ hpo) ?_; simp [argsLe, aLe, csLe, cLe]) | (refine CallOK.le (hc) ?_; simp [argsLe, aLe, csLe, cLe])))); (focus rfl)) | refine CallRG_no ?_ | refine CondR_of (fun hb => ?_) (fun hb => ?_) | (refine And.intro ?_ ?_; focus ((try with_reducible refine GIm_of ?_); first | (with_reducible rfl) | ((with_reducible first | refine rng_of ?_ | refine ordOK_of ?_ | refine chk_of ?_); kernel_rfl) | (intros; omega) | (intro q p; rw [q, p]; rfl) | (intro q; rw [q]; rfl) | (intro q; simp only [Bool.and_eq_true, decide_eq_true_eq, beq_iff_eq] at q; omega) | (intros; simp_all; done) | (intros; simp [List.range, List.range.loop]; done) | (intros; simp_all [List.range, List.range.loop]; done))) | refine And.intro (fun hg => ?_) (fun hg => ?_) | (with_reducible refine chk_of ?_; kernel_rfl) | fail)
    · rw [if_pos hb, List.drop_zero] at hF
      rw [← hF]
    · rw [if_neg (by rw [hb]; simp)] at hF
      refine hK _ (i + 1, _) (Gh.keep [] [] ?_ rfl) hi (by simp only [List.drop_eq_getElem_cons hi, toldMay]; rw [if_neg (by rw [hb]; simp)]) (by simp only; omega)
      simp only [i64_succ hi (by omega), fgt_dead, fgt_same, fgt_nil]
  · have hi : i = l.length := by
      have : ¬ (i : Int) < l.length := by simpa using hge
      omega
    rw [hi, List.drop_length, List.drop_zero, toldMay] at hF
    repeat (first | with_reducible refine SeqQ_normal _ _ ?_ | with_reducible refine And.imp_right (SeqQ_normal _ _) ?_ | with_reducible refine And.imp_right (And.imp_right (SeqQ_normal _ _)) ?_ | with_reducible refine And.imp_right (And.imp_right (And.imp_right (SeqQ_normal _ _))) ?_ | rw [awp_seq] | simp only [pkS, TyB,  implies_true, forall_const, Nat.reduceSub, Nat.reduceEqDiff, Nat.reduceAdd, Nat.reduceMul, Nat.reduceLeDiff, Nat.reduceLT, Nat.reduceBEq, reduceCtorEq])
    rw [← hF]
theorem make1_ok (p q : Prom) : CallOK Tryz.prog 58 [.f (.agg (p.enc.map C.d)), .f (.agg (q.enc.map C.d))] (fun r o => r = [.one (.d (iD (IntKind.i64.wrap (p.src - q.src))))] ∧ o = []) := by
  refine callOK_of TOKTy mixed (T := Ty) (n := 10) Tryz.func58 (c := Tryz.f58.body.getD .skip) rfl Tryz.results58 Tryz.ntmps58 Tryz.call58 ?_
  simp only [Tryz.f58, Option.getD]
  repeat (first | with_reducible refine SeqQ_normal _ _ ?_ | with_reducible refine And.imp_right (SeqQ_normal _ _) ?_ | with_reducible refine And.imp_right (And.imp_right (SeqQ_normal _ _)) ?_ | with_reducible refine And.imp_right (And.imp_right (And.imp_right (SeqQ_normal _ _))) ?_ | rw [awp_seq] | simp only [pkS, TyB,  implies_true, forall_const, Nat.reduceSub, Nat.reduceEqDiff, Nat.reduceAdd, Nat.reduceMul, Nat.reduceLeDiff, Nat.reduceLT, Nat.reduceBEq, reduceCtorEq])
theorem toDs0 {k : Nat} : toDs (sub 0 0 k []) = some [] := by unfold sub; simp [toDs]
theorem rfs1 {a b : RO} : rfsLe [.one a] [.one b] = (roLe a b ∧ True) := rfl
theorem cloneProm_ok (n : Nat) (L : List D) (hL : L.length = n * 6) (hn : n < 2 ^ 40) : CallOK Tryz.prog 56 [.f (al n L)] (fun r o => r = [.one (.own 6 n L false)] ∧ o = []) := by
  refine CallOK.nil ?_
  refine callOK_of TOKTy mixed (T := Ty) (n := 8) Tryz.func56 (c := Tryz.f56.body.getD .skip) rfl Tryz.results56 Tryz.ntmps56 Tryz.call56 ?_
  simp only [Tryz.f56, Option.getD]
  rcases Nat.eq_zero_or_pos n with rfl | hp
  · obtain rfl : L = [] := List.eq_nil_of_length_eq_zero (by omega)
    repeat (first | with_reducible refine SeqQ_normal _ _ ?_ | with_reducible refine And.imp_right (SeqQ_normal _ _) ?_ | with_reducible refine And.imp_right (And.imp_right (SeqQ_normal _ _)) ?_ | with_reducible refine And.imp_right (And.imp_right (And.imp_right (SeqQ_normal _ _))) ?_ | rw [awp_seq] | simp only [pkS, TyB, Option.map_some, CondR_ab, toDs0, implies_true, forall_const, Nat.reduceSub, Nat.reduceEqDiff, Nat.reduceAdd, Nat.reduceMul, Nat.reduceLeDiff, Nat.reduceLT, Nat.reduceBEq, reduceCtorEq])
    refine ⟨?_, ?_, ?_⟩
    · repeat (first | with_reducible refine SeqQ_normal _ _ ?_ | with_reducible refine And.imp_right (SeqQ_normal _ _) ?_ | with_reducible refine And.imp_right (And.imp_right (SeqQ_normal _ _)) ?_ | with_reducible refine And.imp_right (And.imp_right (And.imp_right (SeqQ_normal _ _))) ?_ | rw [awp_seq] | simp only [pkS, TyB, List.map_nil, implies_true, forall_const, Nat.reduceSub, Nat.reduceEqDiff, Nat.reduceAdd, Nat.reduceMul, Nat.reduceLeDiff, Nat.reduceLT, Nat.reduceBEq, reduceCtorEq])
      simp [rfs1, roLe]
    · simp
    · repeat (first | with_reducible refine SeqQ_normal _ _ ?_ | with_reducible refine And.imp_right (SeqQ_normal _ _) ?_ | with_reducible refine And.imp_right (And.imp_right (SeqQ_normal _ _)) ?_ | with_reducible refine And.imp_right (And.imp_right (And.imp_right (SeqQ_normal _ _))) ?_ | rw [awp_seq] | simp only [pkS, TyB, List.map_nil, implies_true, forall_const, Nat.reduceSub, Nat.reduceEqDiff, Nat.reduceAdd, Nat.reduceMul, Nat.reduceLeDiff, Nat.reduceLT, Nat.reduceBEq, reduceCtorEq])
      simp [rfs1, roLe]
  · have h0 : n ≠ 0 := by omega
    have h1 : L ≠ [] := fun h => by rw [h] at hL; simp at hL; omega
    repeat (first | with_reducible refine SeqQ_normal _ _ ?_ | with_reducible refine And.imp_right (SeqQ_normal _ _) ?_ | with_reducible refine And.imp_right (And.imp_right (SeqQ_normal _ _)) ?_ | with_reducible refine And.imp_right (And.imp_right (And.imp_right (SeqQ_normal _ _))) ?_ | rw [awp_seq] | simp only [pkS, TyB, Option.map_some, CondR_ab, toDs0, h0, h1, implies_true, forall_const, Nat.reduceSub, Nat.reduceEqDiff, Nat.reduceAdd, Nat.reduceMul, Nat.reduceLeDiff, Nat.reduceLT, Nat.reduceBEq, reduceCtorEq])
    refine ⟨trivial, fun hb => by simp at hb, fun hb => ?_⟩
    repeat (first | with_reducible refine SeqQ_normal _ _ ?_ | with_reducible refine And.imp_right (SeqQ_normal _ _) ?_ | with_reducible refine And.imp_right (And.imp_right (SeqQ_normal _ _)) ?_ | with_reducible refine And.imp_right (And.imp_right (And.imp_right (SeqQ_normal _ _))) ?_ | rw [awp_seq] | simp only [pkS, TyB, Option.map_some, CondR_ab, toDs0, h0, h1, List.map_nil, List.nil_append, toDs_map, implies_true, forall_const, Nat.reduceSub, Nat.reduceEqDiff, Nat.reduceAdd, Nat.reduceMul, Nat.reduceLeDiff, Nat.reduceLT, Nat.reduceBEq, reduceCtorEq])
    refine ⟨by simp, ⟨hL, by omega⟩, ?_⟩
    simp [rfs1, roLe]
theorem cloneReq_ok (n : Nat) (L : List D) (hL : L.length = n * 5) (hn : n < 2 ^ 40) : CallOK Tryz.prog 46 [.f (al n L)] (fun r o => r = [.one (.own 5 n L false)] ∧ o = []) := by
  refine CallOK.nil ?_
  refine callOK_of TOKTy mixed (T := Ty) (n := 8) Tryz.func46 (c := Tryz.f46.body.getD .skip) rfl Tryz.results46 Tryz.ntmps46 Tryz.call46 ?_
  simp only [Tryz.f46, Option.getD]
  rcases Nat.eq_zero_or_pos n with rfl | hp
  · obtain rfl : L = [] := List.eq_nil_of_length_eq_zero (by omega)
    repeat (first | with_reducible refine SeqQ_normal _ _ ?_ | with_reducible refine And.imp_right (SeqQ_normal _ _) ?_ | with_reducible refine And.imp_right (And.imp_right (SeqQ_normal _ _)) ?_ | with_reducible refine And.imp_right (And.imp_right (And.imp_right (SeqQ_normal _ _))) ?_ | rw [awp_seq] | simp only [pkS, TyB, Option.map_some, CondR_ab, toDs0, implies_true, forall_const, Nat.reduceSub, Nat.reduceEqDiff, Nat.reduceAdd, Nat.reduceMul, Nat.reduceLeDiff, Nat.reduceLT, Nat.reduceBEq, reduceCtorEq])
    refine ⟨?_, ?_, ?_⟩
    · repeat (first | with_reducible refine SeqQ_normal _ _ ?_ | with_reducible refine And.imp_right (SeqQ_normal _ _) ?_ | with_reducible refine And.imp_right (And.imp_right (SeqQ_normal _ _)) ?_ | with_reducible refine And.imp_right (And.imp_right (And.imp_right (SeqQ_normal _ _))) ?_ | rw [awp_seq] | simp only [pkS, TyB, List.map_nil, implies_true, forall_const, Nat.reduceSub, Nat.reduceEqDiff, Nat.reduceAdd, Nat.reduceMul, Nat.reduceLeDiff, Nat.reduceLT, Nat.reduceBEq, reduceCtorEq])
      simp [rfs1, roLe]
    · simp
    · repeat (first | with_reducible refine SeqQ_normal _ _ ?_ | with_reducible refine And.imp_right (SeqQ_normal _ _) ?_ | with_reducible refine And.imp_right (And.imp_right (SeqQ_normal _ _)) ?_ | with_reducible refine And.imp_right (And.imp_right (And.imp_right (SeqQ_normal _ _))) ?_ | rw [awp_seq] | simp only [pkS, TyB, List.map_nil, implies_true, forall_const, Nat.reduceSub, Nat.reduceEqDiff, Nat.reduceAdd, Nat.reduceMul, Nat.reduceLeDiff, Nat.reduceLT, Nat.reduceBEq, reduceCtorEq])
      simp [rfs1, roLe]
  · have h0 : n ≠ 0 := by omega
    have h1 : L ≠ [] := fun h => by rw [h] at hL; simp at hL; omega
    repeat (first | with_reducible refine SeqQ_normal _ _ ?_ | with_reducible refine And.imp_right (SeqQ_normal _ _) ?_ | with_reducible refine And.imp_right (And.imp_right (SeqQ_normal _ _)) ?_ | with_reducible refine And.imp_right (And.imp_right (And.imp_right (SeqQ_normal _ _))) ?_ | rw [awp_seq] | simp only [pkS, TyB, Option.map_some, CondR_ab, toDs0, h0, h1, implies_true, forall_const, Nat.reduceSub, Nat.reduceEqDiff, Nat.reduceAdd, Nat.reduceMul, Nat.reduceLeDiff, Nat.reduceLT, Nat.reduceBEq, reduceCtorEq])
    refine ⟨trivial, fun hb => by simp at hb, fun hb => ?_⟩
    repeat (first | with_reducible refine SeqQ_normal _ _ ?_ | with_reducible refine And.imp_right (SeqQ_normal _ _) ?_ | with_reducible refine And.imp_right (And.imp_right (SeqQ_normal _ _)) ?_ | with_reducible refine And.imp_right (And.imp_right (And.imp_right (SeqQ_normal _ _))) ?_ | rw [awp_seq] | simp only [pkS, TyB, Option.map_some, CondR_ab, toDs0, h0, h1, List.map_nil, List.nil_append, toDs_map, implies_true, forall_const, Nat.reduceSub, Nat.reduceEqDiff, Nat.reduceAdd, Nat.reduceMul, Nat.reduceLeDiff, Nat.reduceLT, Nat.reduceBEq, reduceCtorEq])
    refine ⟨by simp, ⟨hL, by omega⟩, ?_⟩
    simp [rfs1, roLe]
end Go.Proofs.YtgiempmfpmlgnaaGreat

