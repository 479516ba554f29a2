/- Contracts: what promises make, first part. -/
import Derived.Test.YtgiempmfpmlgnaaE
namespace Go.Proofs.Ytgiempmfpmlgnaa
open Go.Pk
set_option maxRecDepth 100000
set_option linter.unusedSimpArgs false
set_option linter.unusedVariables false
theorem take_promises {l : List Prom} {i : Nat} (hi : i ≤ l.length) : (promisesE l).take (i * 6) = promisesE (l.take i) := by
  have h : promisesE l = promisesE (l.take i) ++ promisesE (l.drop i) := by rw [← List.flatMap_append, List.take_append_drop]
  rw [h, List.take_left' (by rw [promises_len, List.length_take]; congr 1; omega)]
/-- Promises that may be, of unlike replicas. -/
def toldMay (l : List Prom) : Nat → List Prom → Bool
  | _, [] => true
  | i, p :: rest => if (!Prom.may p || (l.take i).any (fun o => o.src == p.src)) = true then false else toldMay l (i + 1) rest
theorem told_ok (l : List Prom) (hl : l.length < 2 ^ 42) (hok : ∀ p ∈ l, p.ok) : CallOK Try.prog 58 [.f (al l.length (promisesE l))] (fun r o => r = [rb (toldMay l 0 l)] ∧ o = []) := by
  refine callOK_of TOKTy mixed (T := Ty) (n := 23) Try.func58 (c := Try.f58.body.getD .skip) rfl Try.results58 Try.ntmps58 Try.call58 ?_
  simp only [Try.f58, Option.getD]
  repeat (first | with_reducible refine SeqQ_normal _ _ ?_ | with_reducible refine And.imp_right (SeqQ_normal _ _) ?_ | with_reducible refine And.imp_right (And.imp_right (SeqQ_normal _ _)) ?_ | with_reducible refine And.imp_right (And.imp_right (And.imp_right (SeqQ_normal _ _))) ?_ | rw [awp_seq] | simp only [pkS, TyB, Nat.reduceSub,  if_true, if_false, implies_true, Nat.reduceEqDiff, Nat.reduceAdd, Nat.reduceMul, Nat.reduceLeDiff, Nat.reduceLT, Nat.reduceBEq, beq_self_eq_true, reduceCtorEq, imp_self, ne_eq, not_false_eq_true, beq_iff_eq, forall_const, true_implies])
  refine LoopR_fn (τ := Nat × Nat) (fun t => ⟨[al l.length (promisesE l), dd, ab false, dd, dd, al l.length (promisesE l), ai l.length, ai t.1, dd, dd, dd, dd, dd, dd, dd, dd, dd, dd, dd, dd, dd, dd, dd],
    [(4, ⟨t.2, []⟩)]⟩)
    (fun t => t.1 ≤ l.length) (fun t => toldMay l t.1 (l.drop t.1)) (fun t => l.length - t.1) (0, 0) (Gh.keep [] [4] ?_ rfl) (Nat.zero_le _) ?_
  · simp only [fgt_dead, fgt_same, fgt_nil, Int.natCast_zero]
  intro ⟨i, e⟩ hi0 hF K hK
  simp only at hi0 hF hK ⊢
  repeat (first | with_reducible refine SeqQ_normal _ _ ?_ | with_reducible refine And.imp_right (SeqQ_normal _ _) ?_ | with_reducible refine And.imp_right (And.imp_right (SeqQ_normal _ _)) ?_ | with_reducible refine And.imp_right (And.imp_right (And.imp_right (SeqQ_normal _ _))) ?_ | rw [awp_seq] | simp only [pkS, TyB, Nat.reduceSub,  if_true, if_false, implies_true, Nat.reduceEqDiff, Nat.reduceAdd, Nat.reduceMul, Nat.reduceLeDiff, Nat.reduceLT, Nat.reduceBEq, beq_self_eq_true, reduceCtorEq, imp_self, ne_eq, not_false_eq_true, beq_iff_eq, forall_const, true_implies])
  refine CondR_of (fun hlt => ?_) (fun hge => ?_)
  · have hi : i < l.length := by simpa using hlt
    rw [List.drop_eq_getElem_cons hi, toldMay] at hF
    have hat := promises_at hi
    simp only [List.cons_append, List.nil_append] at hat
    have hpo := hok _ (List.getElem_mem hi)
    have hlt' : (l.take i).length = i := by rw [List.length_take]; omega
    have hc := contains_promise (l.take i) (by omega) (fun o => o.src == l[i].src) 76 [.elt l[i].enc] rfl rfl (fun x _ => sameFrom_ok x _)
    rw [hlt', ← take_promises hi0] at hc
    repeat' (first | with_reducible refine SeqQ_normal _ _ ?_ | rw [awp_seq] | simp only [pkS, TyB, Nat.reduceSub, promises_len, hat, Int.toNat_zero, Int.toNat_natCast, Nat.sub_zero, Int.natCast_zero, if_true, if_false, implies_true, Nat.reduceEqDiff, Nat.reduceAdd, Nat.reduceMul, Nat.reduceLeDiff, Nat.reduceLT, Nat.reduceBEq, beq_self_eq_true, reduceCtorEq, imp_self, ne_eq, not_false_eq_true, beq_iff_eq, forall_const, true_implies] | refine CallR_of (promMay_ok _ hpo) ?_ | refine CallR_of (hc) ?_ | (refine CallR_of (CallOK.le (promMay_ok _ hpo) ?_) ?_; focus (simp [argsLe, aLe, csLe, cLe] <;> fail)) | (refine CallR_of (CallOK.le (hc) ?_) ?_; focus (simp [argsLe, aLe, csLe, cLe] <;> fail)) | refine CallRG_of (fun hg => promMay_ok _ hpo) rfl ?_ | refine CallRG_of (fun hg => hc) rfl ?_ | (refine CallRG_of (fun hg => CallOK.le (promMay_ok _ hpo) ?_) rfl ?_; focus (simp [argsLe, aLe, csLe, cLe] <;> fail)) | (refine CallRG_of (fun hg => CallOK.le (hc) ?_) rfl ?_; focus (simp [argsLe, aLe, csLe, cLe] <;> fail)) | (refine CallRG_tt ?_; refine CallR_of (promMay_ok _ hpo) ?_) | (refine CallRG_tt ?_; refine CallR_of (hc) ?_) | (refine CallRG_tt ?_; refine CallR_of (CallOK.le (promMay_ok _ hpo) ?_) ?_; focus (simp [argsLe, aLe, csLe, cLe] <;> fail)) | (refine CallRG_tt ?_; refine CallR_of (CallOK.le (hc) ?_) ?_; focus (simp [argsLe, aLe, csLe, cLe] <;> fail)) | refine CallRG_no ?_ | refine CondR_of (fun hb => ?_) (fun hb => ?_) | (refine And.intro ?_ ?_; focus ((try with_reducible refine GIm_of ?_); first | (with_reducible rfl) | (with_reducible refine rng_of ?_; rfl) | (with_reducible refine ordOK_of ?_; kernel_rfl) | (with_reducible refine chk_of ?_; kernel_rfl) | (intros; omega) | (intro q1 q2; rw [q1, q2]; rfl) | (intro q1; rw [q1]; rfl) | (intro q; simp only [Bool.and_eq_true, decide_eq_true_eq, beq_iff_eq] at q; omega) | (intros; simp_all; done) | (intros; simp [List.range, List.range.loop]; done) | (intros; simp_all [List.range, List.range.loop]; done))) | refine And.intro (fun hg => ?_) (fun hg => ?_) | (with_reducible refine chk_of ?_; kernel_rfl) | fail)
    · rw [if_pos hb, List.drop_zero] at hF
      rw [← hF]
    · rw [if_neg (by rw [hb]; simp)] at hF
      refine hK _ (i + 1, _) (Gh.keep [] [] ?_ rfl) hi (by simp only [List.drop_eq_getElem_cons hi, toldMay]; rw [if_neg (by rw [hb]; simp)]) (by simp only; omega)
      simp only [i64_succ hi (by omega), fgt_dead, fgt_same, fgt_nil]
  · have hi : i = l.length := by
      have : ¬ (i : Int) < l.length := by simpa using hge
      omega
    rw [hi, List.drop_length, List.drop_zero, toldMay] at hF
    repeat (first | with_reducible refine SeqQ_normal _ _ ?_ | with_reducible refine And.imp_right (SeqQ_normal _ _) ?_ | with_reducible refine And.imp_right (And.imp_right (SeqQ_normal _ _)) ?_ | with_reducible refine And.imp_right (And.imp_right (And.imp_right (SeqQ_normal _ _))) ?_ | rw [awp_seq] | simp only [pkS, TyB, Nat.reduceSub,  if_true, if_false, implies_true, Nat.reduceEqDiff, Nat.reduceAdd, Nat.reduceMul, Nat.reduceLeDiff, Nat.reduceLT, Nat.reduceBEq, beq_self_eq_true, reduceCtorEq, imp_self, ne_eq, not_false_eq_true, beq_iff_eq, forall_const, true_implies])
    rw [← hF]
theorem make1_ok (p q : Prom) : CallOK Try.prog 61 [.f (.agg (p.enc.map C.d)), .f (.agg (q.enc.map C.d))] (fun r o => r = [.one (.d (iD (IntKind.i64.wrap (p.src - q.src))))] ∧ o = []) := by
  refine callOK_of TOKTy mixed (T := Ty) (n := 10) Try.func61 (c := Try.f61.body.getD .skip) rfl Try.results61 Try.ntmps61 Try.call61 ?_
  simp only [Try.f61, Option.getD]
  repeat (first | with_reducible refine SeqQ_normal _ _ ?_ | with_reducible refine And.imp_right (SeqQ_normal _ _) ?_ | with_reducible refine And.imp_right (And.imp_right (SeqQ_normal _ _)) ?_ | with_reducible refine And.imp_right (And.imp_right (And.imp_right (SeqQ_normal _ _))) ?_ | rw [awp_seq] | simp only [pkS, TyB, Nat.reduceSub,  if_true, if_false, implies_true, Nat.reduceEqDiff, Nat.reduceAdd, Nat.reduceMul, Nat.reduceLeDiff, Nat.reduceLT, Nat.reduceBEq, beq_self_eq_true, reduceCtorEq, imp_self, ne_eq, not_false_eq_true, beq_iff_eq, forall_const, true_implies])
theorem toDs0 {k : Nat} : toDs (sub 0 0 k []) = some [] := by unfold sub; simp [toDs]
theorem rfs1 {a b : RO} : rfsLe [.one a] [.one b] = (roLe a b ∧ True) := rfl
theorem cloneProm_ok (n : Nat) (L : List D) (hL : L.length = n * 6) (hn : n < 2 ^ 40) : CallOK Try.prog 59 [.f (al n L)] (fun r o => r = [.one (.own 6 n L false)] ∧ o = []) := by
  refine CallOK.nil ?_
  refine callOK_of TOKTy mixed (T := Ty) (n := 8) Try.func59 (c := Try.f59.body.getD .skip) rfl Try.results59 Try.ntmps59 Try.call59 ?_
  simp only [Try.f59, Option.getD]
  rcases Nat.eq_zero_or_pos n with rfl | hp
  · obtain rfl : L = [] := List.eq_nil_of_length_eq_zero (by omega)
    repeat (first | with_reducible refine SeqQ_normal _ _ ?_ | with_reducible refine And.imp_right (SeqQ_normal _ _) ?_ | with_reducible refine And.imp_right (And.imp_right (SeqQ_normal _ _)) ?_ | with_reducible refine And.imp_right (And.imp_right (And.imp_right (SeqQ_normal _ _))) ?_ | rw [awp_seq] | simp only [pkS, TyB, Nat.reduceSub, Option.map_some, CondR_ab, toDs0, if_true, if_false, implies_true, Nat.reduceEqDiff, Nat.reduceAdd, Nat.reduceMul, Nat.reduceLeDiff, Nat.reduceLT, Nat.reduceBEq, beq_self_eq_true, reduceCtorEq, imp_self, ne_eq, not_false_eq_true, beq_iff_eq, forall_const, true_implies])
    refine ⟨?_, ?_, ?_⟩
    · repeat (first | with_reducible refine SeqQ_normal _ _ ?_ | with_reducible refine And.imp_right (SeqQ_normal _ _) ?_ | with_reducible refine And.imp_right (And.imp_right (SeqQ_normal _ _)) ?_ | with_reducible refine And.imp_right (And.imp_right (And.imp_right (SeqQ_normal _ _))) ?_ | rw [awp_seq] | simp only [pkS, TyB, Nat.reduceSub, List.map_nil, if_true, if_false, implies_true, Nat.reduceEqDiff, Nat.reduceAdd, Nat.reduceMul, Nat.reduceLeDiff, Nat.reduceLT, Nat.reduceBEq, beq_self_eq_true, reduceCtorEq, imp_self, ne_eq, not_false_eq_true, beq_iff_eq, forall_const, true_implies])
      simp [rfs1, roLe]
    · simp
    · repeat (first | with_reducible refine SeqQ_normal _ _ ?_ | with_reducible refine And.imp_right (SeqQ_normal _ _) ?_ | with_reducible refine And.imp_right (And.imp_right (SeqQ_normal _ _)) ?_ | with_reducible refine And.imp_right (And.imp_right (And.imp_right (SeqQ_normal _ _))) ?_ | rw [awp_seq] | simp only [pkS, TyB, Nat.reduceSub, List.map_nil, if_true, if_false, implies_true, Nat.reduceEqDiff, Nat.reduceAdd, Nat.reduceMul, Nat.reduceLeDiff, Nat.reduceLT, Nat.reduceBEq, beq_self_eq_true, reduceCtorEq, imp_self, ne_eq, not_false_eq_true, beq_iff_eq, forall_const, true_implies])
      simp [rfs1, roLe]
  · have h0 : n ≠ 0 := by omega
    have h1 : L ≠ [] := fun h => by rw [h] at hL; simp at hL; omega
    repeat (first | with_reducible refine SeqQ_normal _ _ ?_ | with_reducible refine And.imp_right (SeqQ_normal _ _) ?_ | with_reducible refine And.imp_right (And.imp_right (SeqQ_normal _ _)) ?_ | with_reducible refine And.imp_right (And.imp_right (And.imp_right (SeqQ_normal _ _))) ?_ | rw [awp_seq] | simp only [pkS, TyB, Nat.reduceSub, Option.map_some, CondR_ab, toDs0, h0, h1, if_true, if_false, implies_true, Nat.reduceEqDiff, Nat.reduceAdd, Nat.reduceMul, Nat.reduceLeDiff, Nat.reduceLT, Nat.reduceBEq, beq_self_eq_true, reduceCtorEq, imp_self, ne_eq, not_false_eq_true, beq_iff_eq, forall_const, true_implies])
    refine ⟨trivial, fun hb => by simp at hb, fun hb => ?_⟩
    repeat (first | with_reducible refine SeqQ_normal _ _ ?_ | with_reducible refine And.imp_right (SeqQ_normal _ _) ?_ | with_reducible refine And.imp_right (And.imp_right (SeqQ_normal _ _)) ?_ | with_reducible refine And.imp_right (And.imp_right (And.imp_right (SeqQ_normal _ _))) ?_ | rw [awp_seq] | simp only [pkS, TyB, Nat.reduceSub, Option.map_some, CondR_ab, toDs0, h0, h1, List.map_nil, List.nil_append, toDs_map, if_true, if_false, implies_true, Nat.reduceEqDiff, Nat.reduceAdd, Nat.reduceMul, Nat.reduceLeDiff, Nat.reduceLT, Nat.reduceBEq, beq_self_eq_true, reduceCtorEq, imp_self, ne_eq, not_false_eq_true, beq_iff_eq, forall_const, true_implies])
    refine ⟨by simp, ⟨hL, by omega⟩, ?_⟩
    simp [rfs1, roLe]
theorem cloneReq_ok (n : Nat) (L : List D) (hL : L.length = n * 5) (hn : n < 2 ^ 40) : CallOK Try.prog 30 [.f (al n L)] (fun r o => r = [.one (.own 5 n L false)] ∧ o = []) := by
  refine CallOK.nil ?_
  refine callOK_of TOKTy mixed (T := Ty) (n := 8) Try.func30 (c := Try.f30.body.getD .skip) rfl Try.results30 Try.ntmps30 Try.call30 ?_
  simp only [Try.f30, Option.getD]
  rcases Nat.eq_zero_or_pos n with rfl | hp
  · obtain rfl : L = [] := List.eq_nil_of_length_eq_zero (by omega)
    repeat (first | with_reducible refine SeqQ_normal _ _ ?_ | with_reducible refine And.imp_right (SeqQ_normal _ _) ?_ | with_reducible refine And.imp_right (And.imp_right (SeqQ_normal _ _)) ?_ | with_reducible refine And.imp_right (And.imp_right (And.imp_right (SeqQ_normal _ _))) ?_ | rw [awp_seq] | simp only [pkS, TyB, Nat.reduceSub, Option.map_some, CondR_ab, toDs0, if_true, if_false, implies_true, Nat.reduceEqDiff, Nat.reduceAdd, Nat.reduceMul, Nat.reduceLeDiff, Nat.reduceLT, Nat.reduceBEq, beq_self_eq_true, reduceCtorEq, imp_self, ne_eq, not_false_eq_true, beq_iff_eq, forall_const, true_implies])
    refine ⟨?_, ?_, ?_⟩
    · repeat (first | with_reducible refine SeqQ_normal _ _ ?_ | with_reducible refine And.imp_right (SeqQ_normal _ _) ?_ | with_reducible refine And.imp_right (And.imp_right (SeqQ_normal _ _)) ?_ | with_reducible refine And.imp_right (And.imp_right (And.imp_right (SeqQ_normal _ _))) ?_ | rw [awp_seq] | simp only [pkS, TyB, Nat.reduceSub, List.map_nil, if_true, if_false, implies_true, Nat.reduceEqDiff, Nat.reduceAdd, Nat.reduceMul, Nat.reduceLeDiff, Nat.reduceLT, Nat.reduceBEq, beq_self_eq_true, reduceCtorEq, imp_self, ne_eq, not_false_eq_true, beq_iff_eq, forall_const, true_implies])
      simp [rfs1, roLe]
    · simp
    · repeat (first | with_reducible refine SeqQ_normal _ _ ?_ | with_reducible refine And.imp_right (SeqQ_normal _ _) ?_ | with_reducible refine And.imp_right (And.imp_right (SeqQ_normal _ _)) ?_ | with_reducible refine And.imp_right (And.imp_right (And.imp_right (SeqQ_normal _ _))) ?_ | rw [awp_seq] | simp only [pkS, TyB, Nat.reduceSub, List.map_nil, if_true, if_false, implies_true, Nat.reduceEqDiff, Nat.reduceAdd, Nat.reduceMul, Nat.reduceLeDiff, Nat.reduceLT, Nat.reduceBEq, beq_self_eq_true, reduceCtorEq, imp_self, ne_eq, not_false_eq_true, beq_iff_eq, forall_const, true_implies])
      simp [rfs1, roLe]
  · have h0 : n ≠ 0 := by omega
    have h1 : L ≠ [] := fun h => by rw [h] at hL; simp at hL; omega
    repeat (first | with_reducible refine SeqQ_normal _ _ ?_ | with_reducible refine And.imp_right (SeqQ_normal _ _) ?_ | with_reducible refine And.imp_right (And.imp_right (SeqQ_normal _ _)) ?_ | with_reducible refine And.imp_right (And.imp_right (And.imp_right (SeqQ_normal _ _))) ?_ | rw [awp_seq] | simp only [pkS, TyB, Nat.reduceSub, Option.map_some, CondR_ab, toDs0, h0, h1, if_true, if_false, implies_true, Nat.reduceEqDiff, Nat.reduceAdd, Nat.reduceMul, Nat.reduceLeDiff, Nat.reduceLT, Nat.reduceBEq, beq_self_eq_true, reduceCtorEq, imp_self, ne_eq, not_false_eq_true, beq_iff_eq, forall_const, true_implies])
    refine ⟨trivial, fun hb => by simp at hb, fun hb => ?_⟩
    repeat (first | with_reducible refine SeqQ_normal _ _ ?_ | with_reducible refine And.imp_right (SeqQ_normal _ _) ?_ | with_reducible refine And.imp_right (And.imp_right (SeqQ_normal _ _)) ?_ | with_reducible refine And.imp_right (And.imp_right (And.imp_right (SeqQ_normal _ _))) ?_ | rw [awp_seq] | simp only [pkS, TyB, Nat.reduceSub, Option.map_some, CondR_ab, toDs0, h0, h1, List.map_nil, List.nil_append, toDs_map, if_true, if_false, implies_true, Nat.reduceEqDiff, Nat.reduceAdd, Nat.reduceMul, Nat.reduceLeDiff, Nat.reduceLT, Nat.reduceBEq, beq_self_eq_true, reduceCtorEq, imp_self, ne_eq, not_false_eq_true, beq_iff_eq, forall_const, true_implies])
    refine ⟨by simp, ⟨hL, by omega⟩, ?_⟩
    simp [rfs1, roLe]
end Go.Proofs.Ytgiempmfpmlgnaa

