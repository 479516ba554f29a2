/- Contracts: what promises make, first part. -/
import Derived.Test.YthlolabfogklgaaE
namespace Go.Proofs.Ythlolabfogklgaa
open Go.Pk
set_option maxRecDepth 100000
set_option linter.unusedSimpArgs false
set_option linter.unusedVariables false
theorem take_promises {l : List Prom} {i : Nat} (hi : i ≤ l.length) : (promisesE l).take (i * 6) = promisesE (l.take i) := by
  have h : promisesE l = promisesE (l.take i) ++ promisesE (l.drop i) := by rw [← List.flatMap_append, List.take_append_drop]
  rw [h, List.take_left' (by rw [promises_len, List.length_take]; congr 1; omega)]
/-- Promises that may be, of unlike replicas. -/
def toldMay (l : List Prom) : Nat → List Prom → Bool
  | _, [] => true
  | i, p :: rest => if (!Prom.may p || (l.take i).any (fun o => o.src == p.src)) = true then false else toldMay l (i + 1) rest
theorem told_ok (l : List Prom) (hl : l.length < 2 ^ 42) (hok : ∀ p ∈ l, p.ok) : CallOK Try.prog 26 [.f (al l.length (promisesE l))] (fun r o => r = [rb (toldMay l 0 l)] ∧ o = []) := by
  refine callOK_of TOKTy mixed (T := Ty) (n := 23) Try.func26 (c := Try.f26.body.getD .skip) rfl Try.results26 Try.ntmps26 Try.call26 ?_
  simp only [Try.f26, Option.getD]
  repeat (first | rw [SeqQ_normal] | rw [awp_seq] | simp only [pk0, pk1, pk2, pk3, pk4, pk5, pk6, pk7, pe0, pe1, TyB, BlkQ_normal, BlkQ_exit, BlkQ_ret, SeqQ_exit, SeqQ_ret, RndQ_normal, RndQ_exit, RndQ_ret, List.length_cons, List.length_nil, Nat.reduceSub,  true_and, and_true, if_true, if_false, Nat.zero_add, Nat.add_zero, implies_true, Bool.true_and, Bool.and_true, Bool.false_eq_true, Nat.reduceEqDiff, Nat.reduceAdd, Nat.reduceMul, Nat.reduceLeDiff, Nat.reduceLT, Nat.reduceBEq, Bool.or_false, Bool.false_or, Bool.true_or, Bool.or_true, Bool.false_and, Bool.and_false, beq_self_eq_true, Nat.zero_lt_succ, List.zip_nil_left, List.zip_nil_right, Int.toNat_natCast, reduceCtorEq, imp_self, ne_eq, not_false_eq_true, beq_iff_eq, forall_const, true_implies])
  refine LoopR_fn (τ := Nat × Nat) (fun t => ⟨[al l.length (promisesE l), dd, ab false, dd, dd, al l.length (promisesE l), ai l.length, ai t.1, dd, dd, dd, dd, dd, dd, dd, dd, dd, dd, dd, dd, dd, dd, dd],
    [(4, ⟨t.2, []⟩)]⟩)
    (fun t => t.1 ≤ l.length) (fun t => toldMay l t.1 (l.drop t.1)) (fun t => l.length - t.1) (0, 0) (Gh.keep [] [4] ?_ rfl) (Nat.zero_le _) ?_
  · simp only [fgt_dead, fgt_same, fgt_nil, Int.natCast_zero]
  intro ⟨i, e⟩ hi0 hF K hK
  simp only at hi0 hF hK ⊢
  repeat (first | rw [SeqQ_normal] | rw [awp_seq] | simp only [pk0, pk1, pk2, pk3, pk4, pk5, pk6, pk7, pe0, pe1, TyB, BlkQ_normal, BlkQ_exit, BlkQ_ret, SeqQ_exit, SeqQ_ret, RndQ_normal, RndQ_exit, RndQ_ret, List.length_cons, List.length_nil, Nat.reduceSub,  true_and, and_true, if_true, if_false, Nat.zero_add, Nat.add_zero, implies_true, Bool.true_and, Bool.and_true, Bool.false_eq_true, Nat.reduceEqDiff, Nat.reduceAdd, Nat.reduceMul, Nat.reduceLeDiff, Nat.reduceLT, Nat.reduceBEq, Bool.or_false, Bool.false_or, Bool.true_or, Bool.or_true, Bool.false_and, Bool.and_false, beq_self_eq_true, Nat.zero_lt_succ, List.zip_nil_left, List.zip_nil_right, Int.toNat_natCast, reduceCtorEq, imp_self, ne_eq, not_false_eq_true, beq_iff_eq, forall_const, true_implies])
  refine CondR_of (fun hlt => ?_) (fun hge => ?_)
  · have hi : i < l.length := by simpa using hlt
    rw [List.drop_eq_getElem_cons hi, toldMay] at hF
    have hat := promises_at hi
    simp only [List.cons_append, List.nil_append] at hat
    have hpo := hok _ (List.getElem_mem hi)
    have hlt' : (l.take i).length = i := by rw [List.length_take]; omega
    have hc := contains_promise (l.take i) (by omega) (fun o => o.src == l[i].src) 45 [.elt l[i].enc] rfl rfl (fun x _ => sameFrom_ok x _)
    rw [hlt', ← take_promises hi0] at hc
    repeat' (first | rw [SeqQ_normal] | rw [awp_seq] | simp only [pk0, pk1, pk2, pk3, pk4, pk5, pk6, pk7, pe0, pe1, TyB, BlkQ_normal, BlkQ_exit, BlkQ_ret, SeqQ_exit, SeqQ_ret, RndQ_normal, RndQ_exit, RndQ_ret, List.length_cons, List.length_nil, Nat.reduceSub, promises_len, hat, Int.toNat_zero, Int.toNat_natCast, Nat.sub_zero, Int.natCast_zero, true_and, and_true, if_true, if_false, Nat.zero_add, Nat.add_zero, implies_true, Bool.true_and, Bool.and_true, Bool.false_eq_true, Nat.reduceEqDiff, Nat.reduceAdd, Nat.reduceMul, Nat.reduceLeDiff, Nat.reduceLT, Nat.reduceBEq, Bool.or_false, Bool.false_or, Bool.true_or, Bool.or_true, Bool.false_and, Bool.and_false, beq_self_eq_true, Nat.zero_lt_succ, List.zip_nil_left, List.zip_nil_right, Int.toNat_natCast, reduceCtorEq, imp_self, ne_eq, not_false_eq_true, beq_iff_eq, forall_const, true_implies] | refine CallR_of (by first | exact promMay_ok _ hpo | exact hc | exact CallOK.le (promMay_ok _ hpo) (by simp [argsLe, aLe, csLe, cLe]) | exact CallOK.le (hc) (by simp [argsLe, aLe, csLe, cLe])) ?_ | refine CallRG_of (fun hg => by first | exact promMay_ok _ hpo | exact hc | exact CallOK.le (promMay_ok _ hpo) (by simp [argsLe, aLe, csLe, cLe]) | exact CallOK.le (hc) (by simp [argsLe, aLe, csLe, cLe])) rfl ?_ | refine CondR_of (fun hb => ?_) (fun hb => ?_) | (refine And.intro ?_ ?_; focus ((try with_reducible refine GIm_of ?_); first | (with_reducible rfl) | (show _ = List.range _; rfl) | (show ordB _ = true; kernel_rfl) | (show chkFP _ _ = true; kernel_rfl) | (intros; omega) | (intro q1 q2; rw [q1, q2]; rfl) | (intro q1; rw [q1]; rfl) | (intro q; simp only [Bool.and_eq_true, decide_eq_true_eq, beq_iff_eq] at q; omega) | (intros; simp_all; done) | (intros; simp [List.range, List.range.loop]; done) | (intros; simp_all [List.range, List.range.loop]; done))) | refine And.intro (fun hg => ?_) (fun hg => ?_) | fail)
    · rw [if_pos hb, List.drop_zero] at hF
      rw [← hF]
    · rw [if_neg (by rw [hb]; simp)] at hF
      refine hK _ (i + 1, _) (Gh.keep [] [] ?_ rfl) hi (by simp only [List.drop_eq_getElem_cons hi, toldMay]; rw [if_neg (by rw [hb]; simp)]) (by simp only; omega)
      simp only [i64_succ hi (by omega), fgt_dead, fgt_same, fgt_nil]
  · have hi : i = l.length := by
      have : ¬ (i : Int) < l.length := by simpa using hge
      omega
    rw [hi, List.drop_length, List.drop_zero, toldMay] at hF
    repeat (first | rw [SeqQ_normal] | rw [awp_seq] | simp only [pk0, pk1, pk2, pk3, pk4, pk5, pk6, pk7, pe0, pe1, TyB, BlkQ_normal, BlkQ_exit, BlkQ_ret, SeqQ_exit, SeqQ_ret, RndQ_normal, RndQ_exit, RndQ_ret, List.length_cons, List.length_nil, Nat.reduceSub,  true_and, and_true, if_true, if_false, Nat.zero_add, Nat.add_zero, implies_true, Bool.true_and, Bool.and_true, Bool.false_eq_true, Nat.reduceEqDiff, Nat.reduceAdd, Nat.reduceMul, Nat.reduceLeDiff, Nat.reduceLT, Nat.reduceBEq, Bool.or_false, Bool.false_or, Bool.true_or, Bool.or_true, Bool.false_and, Bool.and_false, beq_self_eq_true, Nat.zero_lt_succ, List.zip_nil_left, List.zip_nil_right, Int.toNat_natCast, reduceCtorEq, imp_self, ne_eq, not_false_eq_true, beq_iff_eq, forall_const, true_implies])
    rw [← hF]
theorem make1_ok (p q : Prom) : CallOK Try.prog 29 [.f (.agg (p.enc.map C.d)), .f (.agg (q.enc.map C.d))] (fun r o => r = [.one (.d (iD (IntKind.i64.wrap (p.src - q.src))))] ∧ o = []) := by
  refine callOK_of TOKTy mixed (T := Ty) (n := 10) Try.func29 (c := Try.f29.body.getD .skip) rfl Try.results29 Try.ntmps29 Try.call29 ?_
  simp only [Try.f29, Option.getD]
  repeat (first | rw [SeqQ_normal] | rw [awp_seq] | simp only [pk0, pk1, pk2, pk3, pk4, pk5, pk6, pk7, pe0, pe1, TyB, BlkQ_normal, BlkQ_exit, BlkQ_ret, SeqQ_exit, SeqQ_ret, RndQ_normal, RndQ_exit, RndQ_ret, List.length_cons, List.length_nil, Nat.reduceSub,  true_and, and_true, if_true, if_false, Nat.zero_add, Nat.add_zero, implies_true, Bool.true_and, Bool.and_true, Bool.false_eq_true, Nat.reduceEqDiff, Nat.reduceAdd, Nat.reduceMul, Nat.reduceLeDiff, Nat.reduceLT, Nat.reduceBEq, Bool.or_false, Bool.false_or, Bool.true_or, Bool.or_true, Bool.false_and, Bool.and_false, beq_self_eq_true, Nat.zero_lt_succ, List.zip_nil_left, List.zip_nil_right, Int.toNat_natCast, reduceCtorEq, imp_self, ne_eq, not_false_eq_true, beq_iff_eq, forall_const, true_implies])
theorem toDs0 {k : Nat} : toDs (sub 0 0 k []) = some [] := by unfold sub; simp [toDs]
theorem rfs1 {a b : RO} : rfsLe [.one a] [.one b] = (roLe a b ∧ True) := rfl
theorem cloneProm_ok (n : Nat) (L : List D) (hL : L.length = n * 6) (hn : n < 2 ^ 40) : CallOK Try.prog 27 [.f (al n L)] (fun r o => r = [.one (.own 6 n L false)] ∧ o = []) := by
  refine CallOK.nil ?_
  refine callOK_of TOKTy mixed (T := Ty) (n := 8) Try.func27 (c := Try.f27.body.getD .skip) rfl Try.results27 Try.ntmps27 Try.call27 ?_
  simp only [Try.f27, Option.getD]
  rcases Nat.eq_zero_or_pos n with rfl | hp
  · obtain rfl : L = [] := List.eq_nil_of_length_eq_zero (by omega)
    repeat (first | rw [SeqQ_normal] | rw [awp_seq] | simp only [pk0, pk1, pk2, pk3, pk4, pk5, pk6, pk7, pe0, pe1, TyB, BlkQ_normal, BlkQ_exit, BlkQ_ret, SeqQ_exit, SeqQ_ret, RndQ_normal, RndQ_exit, RndQ_ret, List.length_cons, List.length_nil, Nat.reduceSub, Option.map_some, CondR_ab, toDs0, true_and, and_true, if_true, if_false, Nat.zero_add, Nat.add_zero, implies_true, Bool.true_and, Bool.and_true, Bool.false_eq_true, Nat.reduceEqDiff, Nat.reduceAdd, Nat.reduceMul, Nat.reduceLeDiff, Nat.reduceLT, Nat.reduceBEq, Bool.or_false, Bool.false_or, Bool.true_or, Bool.or_true, Bool.false_and, Bool.and_false, beq_self_eq_true, Nat.zero_lt_succ, List.zip_nil_left, List.zip_nil_right, Int.toNat_natCast, reduceCtorEq, imp_self, ne_eq, not_false_eq_true, beq_iff_eq, forall_const, true_implies])
    refine ⟨?_, ?_, ?_⟩
    · simp [rfs1, roLe]
    · simp
    · repeat (first | rw [SeqQ_normal] | rw [awp_seq] | simp only [pk0, pk1, pk2, pk3, pk4, pk5, pk6, pk7, pe0, pe1, TyB, BlkQ_normal, BlkQ_exit, BlkQ_ret, SeqQ_exit, SeqQ_ret, RndQ_normal, RndQ_exit, RndQ_ret, List.length_cons, List.length_nil, Nat.reduceSub, List.map_nil, true_and, and_true, if_true, if_false, Nat.zero_add, Nat.add_zero, implies_true, Bool.true_and, Bool.and_true, Bool.false_eq_true, Nat.reduceEqDiff, Nat.reduceAdd, Nat.reduceMul, Nat.reduceLeDiff, Nat.reduceLT, Nat.reduceBEq, Bool.or_false, Bool.false_or, Bool.true_or, Bool.or_true, Bool.false_and, Bool.and_false, beq_self_eq_true, Nat.zero_lt_succ, List.zip_nil_left, List.zip_nil_right, Int.toNat_natCast, reduceCtorEq, imp_self, ne_eq, not_false_eq_true, beq_iff_eq, forall_const, true_implies])
      simp [rfs1, roLe]
  · have h0 : n ≠ 0 := by omega
    have h1 : L ≠ [] := fun h => by rw [h] at hL; simp at hL; omega
    repeat (first | rw [SeqQ_normal] | rw [awp_seq] | simp only [pk0, pk1, pk2, pk3, pk4, pk5, pk6, pk7, pe0, pe1, TyB, BlkQ_normal, BlkQ_exit, BlkQ_ret, SeqQ_exit, SeqQ_ret, RndQ_normal, RndQ_exit, RndQ_ret, List.length_cons, List.length_nil, Nat.reduceSub, Option.map_some, CondR_ab, toDs0, h0, h1, true_and, and_true, if_true, if_false, Nat.zero_add, Nat.add_zero, implies_true, Bool.true_and, Bool.and_true, Bool.false_eq_true, Nat.reduceEqDiff, Nat.reduceAdd, Nat.reduceMul, Nat.reduceLeDiff, Nat.reduceLT, Nat.reduceBEq, Bool.or_false, Bool.false_or, Bool.true_or, Bool.or_true, Bool.false_and, Bool.and_false, beq_self_eq_true, Nat.zero_lt_succ, List.zip_nil_left, List.zip_nil_right, Int.toNat_natCast, reduceCtorEq, imp_self, ne_eq, not_false_eq_true, beq_iff_eq, forall_const, true_implies])
    refine ⟨trivial, fun hb => by simp at hb, fun hb => ?_⟩
    repeat (first | rw [SeqQ_normal] | rw [awp_seq] | simp only [pk0, pk1, pk2, pk3, pk4, pk5, pk6, pk7, pe0, pe1, TyB, BlkQ_normal, BlkQ_exit, BlkQ_ret, SeqQ_exit, SeqQ_ret, RndQ_normal, RndQ_exit, RndQ_ret, List.length_cons, List.length_nil, Nat.reduceSub, Option.map_some, CondR_ab, toDs0, h0, h1, List.map_nil, List.nil_append, toDs_map, true_and, and_true, if_true, if_false, Nat.zero_add, Nat.add_zero, implies_true, Bool.true_and, Bool.and_true, Bool.false_eq_true, Nat.reduceEqDiff, Nat.reduceAdd, Nat.reduceMul, Nat.reduceLeDiff, Nat.reduceLT, Nat.reduceBEq, Bool.or_false, Bool.false_or, Bool.true_or, Bool.or_true, Bool.false_and, Bool.and_false, beq_self_eq_true, Nat.zero_lt_succ, List.zip_nil_left, List.zip_nil_right, Int.toNat_natCast, reduceCtorEq, imp_self, ne_eq, not_false_eq_true, beq_iff_eq, forall_const, true_implies])
    refine ⟨by simp, ⟨hL, by omega⟩, ?_⟩
    simp [rfs1, roLe]
theorem cloneReq_ok (n : Nat) (L : List D) (hL : L.length = n * 5) (hn : n < 2 ^ 40) : CallOK Try.prog 48 [.f (al n L)] (fun r o => r = [.one (.own 5 n L false)] ∧ o = []) := by
  refine CallOK.nil ?_
  refine callOK_of TOKTy mixed (T := Ty) (n := 8) Try.func48 (c := Try.f48.body.getD .skip) rfl Try.results48 Try.ntmps48 Try.call48 ?_
  simp only [Try.f48, Option.getD]
  rcases Nat.eq_zero_or_pos n with rfl | hp
  · obtain rfl : L = [] := List.eq_nil_of_length_eq_zero (by omega)
    repeat (first | rw [SeqQ_normal] | rw [awp_seq] | simp only [pk0, pk1, pk2, pk3, pk4, pk5, pk6, pk7, pe0, pe1, TyB, BlkQ_normal, BlkQ_exit, BlkQ_ret, SeqQ_exit, SeqQ_ret, RndQ_normal, RndQ_exit, RndQ_ret, List.length_cons, List.length_nil, Nat.reduceSub, Option.map_some, CondR_ab, toDs0, true_and, and_true, if_true, if_false, Nat.zero_add, Nat.add_zero, implies_true, Bool.true_and, Bool.and_true, Bool.false_eq_true, Nat.reduceEqDiff, Nat.reduceAdd, Nat.reduceMul, Nat.reduceLeDiff, Nat.reduceLT, Nat.reduceBEq, Bool.or_false, Bool.false_or, Bool.true_or, Bool.or_true, Bool.false_and, Bool.and_false, beq_self_eq_true, Nat.zero_lt_succ, List.zip_nil_left, List.zip_nil_right, Int.toNat_natCast, reduceCtorEq, imp_self, ne_eq, not_false_eq_true, beq_iff_eq, forall_const, true_implies])
    refine ⟨?_, ?_, ?_⟩
    · simp [rfs1, roLe]
    · simp
    · repeat (first | rw [SeqQ_normal] | rw [awp_seq] | simp only [pk0, pk1, pk2, pk3, pk4, pk5, pk6, pk7, pe0, pe1, TyB, BlkQ_normal, BlkQ_exit, BlkQ_ret, SeqQ_exit, SeqQ_ret, RndQ_normal, RndQ_exit, RndQ_ret, List.length_cons, List.length_nil, Nat.reduceSub, List.map_nil, true_and, and_true, if_true, if_false, Nat.zero_add, Nat.add_zero, implies_true, Bool.true_and, Bool.and_true, Bool.false_eq_true, Nat.reduceEqDiff, Nat.reduceAdd, Nat.reduceMul, Nat.reduceLeDiff, Nat.reduceLT, Nat.reduceBEq, Bool.or_false, Bool.false_or, Bool.true_or, Bool.or_true, Bool.false_and, Bool.and_false, beq_self_eq_true, Nat.zero_lt_succ, List.zip_nil_left, List.zip_nil_right, Int.toNat_natCast, reduceCtorEq, imp_self, ne_eq, not_false_eq_true, beq_iff_eq, forall_const, true_implies])
      simp [rfs1, roLe]
  · have h0 : n ≠ 0 := by omega
    have h1 : L ≠ [] := fun h => by rw [h] at hL; simp at hL; omega
    repeat (first | rw [SeqQ_normal] | rw [awp_seq] | simp only [pk0, pk1, pk2, pk3, pk4, pk5, pk6, pk7, pe0, pe1, TyB, BlkQ_normal, BlkQ_exit, BlkQ_ret, SeqQ_exit, SeqQ_ret, RndQ_normal, RndQ_exit, RndQ_ret, List.length_cons, List.length_nil, Nat.reduceSub, Option.map_some, CondR_ab, toDs0, h0, h1, true_and, and_true, if_true, if_false, Nat.zero_add, Nat.add_zero, implies_true, Bool.true_and, Bool.and_true, Bool.false_eq_true, Nat.reduceEqDiff, Nat.reduceAdd, Nat.reduceMul, Nat.reduceLeDiff, Nat.reduceLT, Nat.reduceBEq, Bool.or_false, Bool.false_or, Bool.true_or, Bool.or_true, Bool.false_and, Bool.and_false, beq_self_eq_true, Nat.zero_lt_succ, List.zip_nil_left, List.zip_nil_right, Int.toNat_natCast, reduceCtorEq, imp_self, ne_eq, not_false_eq_true, beq_iff_eq, forall_const, true_implies])
    refine ⟨trivial, fun hb => by simp at hb, fun hb => ?_⟩
    repeat (first | rw [SeqQ_normal] | rw [awp_seq] | simp only [pk0, pk1, pk2, pk3, pk4, pk5, pk6, pk7, pe0, pe1, TyB, BlkQ_normal, BlkQ_exit, BlkQ_ret, SeqQ_exit, SeqQ_ret, RndQ_normal, RndQ_exit, RndQ_ret, List.length_cons, List.length_nil, Nat.reduceSub, Option.map_some, CondR_ab, toDs0, h0, h1, List.map_nil, List.nil_append, toDs_map, true_and, and_true, if_true, if_false, Nat.zero_add, Nat.add_zero, implies_true, Bool.true_and, Bool.and_true, Bool.false_eq_true, Nat.reduceEqDiff, Nat.reduceAdd, Nat.reduceMul, Nat.reduceLeDiff, Nat.reduceLT, Nat.reduceBEq, Bool.or_false, Bool.false_or, Bool.true_or, Bool.or_true, Bool.false_and, Bool.and_false, beq_self_eq_true, Nat.zero_lt_succ, List.zip_nil_left, List.zip_nil_right, Int.toNat_natCast, reduceCtorEq, imp_self, ne_eq, not_false_eq_true, beq_iff_eq, forall_const, true_implies])
    refine ⟨by simp, ⟨hL, by omega⟩, ?_⟩
    simp [rfs1, roLe]
end Go.Proofs.Ythlolabfogklgaa

