/- Contracts: batches and promises that may be. -/
import Derived.Test.YtgiempmfpmlgnaaGreatC
namespace Go.Proofs.YtgiempmfpmlgnaaGreat
open Go.Pk
set_option maxRecDepth 100000
set_option linter.unusedSimpArgs false
set_option linter.unusedVariables false
theorem i64_succ {i n : Nat} (h : i < n) (hn : n < 2 ^ 62) : IntKind.i64.wrap ((i : Int) + 1) = ((i + 1 : Nat) : Int) := by rw [wrap64 (by omega) (by omega)]; rfl
theorem take_reqs {l : List Req} {i : Nat} (hi : i ≤ l.length) : (reqsE l).take (i * 5) = reqsE (l.take i) := by
  have h : reqsE l = reqsE (l.take i) ++ reqsE (l.drop i) := by rw [← List.flatMap_append, List.take_append_drop]
  rw [h, List.take_left' (by rw [reqs_len, List.length_take]; congr 1; omega)]
theorem nameR_ok (s : ByteArray) (hs : s.size < 2 ^ 62) : CallOK Tryz.prog 103 [.f (ast s)] (fun r o => r = [rb (nameP s)] ∧ o = []) := by
  refine callOK_of TOKTy mixed (T := Ty) (n := 41) Tryz.func103 (c := Tryz.f103.body.getD .skip) rfl Tryz.results103 Tryz.ntmps103 Tryz.call103 ?_
  simp only [Tryz.f103, Option.getD]
  repeat (first | with_reducible refine SeqQ_normal _ _ ?_ | with_reducible refine And.imp_right (SeqQ_normal _ _) ?_ | with_reducible refine And.imp_right (And.imp_right (SeqQ_normal _ _)) ?_ | with_reducible refine And.imp_right (And.imp_right (And.imp_right (SeqQ_normal _ _))) ?_ | rw [awp_seq] | simp only [pkS, TyB,  implies_true, forall_const, Nat.reduceSub, Nat.reduceEqDiff, Nat.reduceAdd, Nat.reduceMul, Nat.reduceLeDiff, Nat.reduceLT, Nat.reduceBEq, reduceCtorEq])
  refine CondR_of (fun hb => ?_) (fun hb => ?_)
  · repeat (first | with_reducible refine SeqQ_normal _ _ ?_ | with_reducible refine And.imp_right (SeqQ_normal _ _) ?_ | with_reducible refine And.imp_right (And.imp_right (SeqQ_normal _ _)) ?_ | with_reducible refine And.imp_right (And.imp_right (And.imp_right (SeqQ_normal _ _))) ?_ | rw [awp_seq] | simp only [pkS, TyB,  implies_true, forall_const, Nat.reduceSub, Nat.reduceEqDiff, Nat.reduceAdd, Nat.reduceMul, Nat.reduceLeDiff, Nat.reduceLT, Nat.reduceBEq, reduceCtorEq])
    have : nameP s = false := by
      unfold nameP
      rw [Bool.and_eq_false_iff]; right
      simp only [Bool.or_eq_true, decide_eq_true_eq] at hb
      simp only [Bool.and_eq_false_iff, decide_eq_false_iff_not]
      omega
    rw [this]
  have hsz : (decide ((s.size : Int) ≥ 1) && decide ((s.size : Int) ≤ 12)) = true := by
    simp only [Bool.or_eq_false_iff, decide_eq_false_iff_not] at hb
    simp only [Bool.and_eq_true, decide_eq_true_eq]
    omega
  repeat (first | with_reducible refine SeqQ_normal _ _ ?_ | with_reducible refine And.imp_right (SeqQ_normal _ _) ?_ | with_reducible refine And.imp_right (And.imp_right (SeqQ_normal _ _)) ?_ | with_reducible refine And.imp_right (And.imp_right (And.imp_right (SeqQ_normal _ _))) ?_ | rw [awp_seq] | simp only [pkS, TyB,  implies_true, forall_const, Nat.reduceSub, Nat.reduceEqDiff, Nat.reduceAdd, Nat.reduceMul, Nat.reduceLeDiff, Nat.reduceLT, Nat.reduceBEq, reduceCtorEq])
  refine LoopR_ix Ty Tryz.prog (τ := Nat) (fun i => ⟨[ast s, dd, ab false, ai i, dd, dd, dd, dd, dd, dd, dd, dd, dd, dd, dd, dd, dd, dd, dd, dd, dd, dd, dd, dd, dd, dd, dd, dd, dd, dd, dd, dd, dd, dd, dd, dd, dd, dd, dd, dd, dd], []⟩) (fun i => i ≤ s.size ∧ ∀ j, j < i → okByte (s.data.getD j 0) = true) (fun i => s.size - i) 0 ?_ ⟨Nat.zero_le _, fun j hj => absurd hj (Nat.not_lt_zero j)⟩ ?_
  · refine Gh.fgt ?_
    simp only [fgt_dead, fgt_same, fgt_nil, Int.natCast_zero]
  intro i ⟨h1, h2⟩ K hK
  repeat (first | with_reducible refine SeqQ_normal _ _ ?_ | with_reducible refine And.imp_right (SeqQ_normal _ _) ?_ | with_reducible refine And.imp_right (And.imp_right (SeqQ_normal _ _)) ?_ | with_reducible refine And.imp_right (And.imp_right (And.imp_right (SeqQ_normal _ _))) ?_ | rw [awp_seq] | simp only [pkS, TyB,  implies_true, forall_const, Nat.reduceSub, Nat.reduceEqDiff, Nat.reduceAdd, Nat.reduceMul, Nat.reduceLeDiff, Nat.reduceLT, Nat.reduceBEq, reduceCtorEq])
  refine CondR_of (fun hlt => ?_) (fun hge => ?_)
  · have hi : i < s.size := by simpa using hlt
    repeat (first | with_reducible refine SeqQ_normal _ _ ?_ | with_reducible refine And.imp_right (SeqQ_normal _ _) ?_ | with_reducible refine And.imp_right (And.imp_right (SeqQ_normal _ _)) ?_ | with_reducible refine And.imp_right (And.imp_right (And.imp_right (SeqQ_normal _ _))) ?_ | rw [awp_seq] | simp only [pkS, TyB,  implies_true, forall_const, Nat.reduceSub, Nat.reduceEqDiff, Nat.reduceAdd, Nat.reduceMul, Nat.reduceLeDiff, Nat.reduceLT, Nat.reduceBEq, reduceCtorEq])
    refine ⟨⟨Int.natCast_nonneg i, by omega⟩, ?_⟩
    refine ⟨GIm_of ?_, ?_⟩
    · simp_all; omega
    have hok : okByte (s.data.getD i 0) = !((decide (((s.data.getD i 0).toNat:Int) < 97) || decide (((s.data.getD i 0).toNat:Int) > 122)) && (decide (((s.data.getD i 0).toNat:Int) < 48) || decide (((s.data.getD i 0).toNat:Int) > 57)) && (((s.data.getD i 0).toNat:Int) != 45)) := rfl
    generalize ((s.data.getD i 0).toNat : Int) = c at hok ⊢
    refine CondR_of (fun hb2 => ?_) (fun hb2 => ?_)
    · repeat (first | with_reducible refine SeqQ_normal _ _ ?_ | with_reducible refine And.imp_right (SeqQ_normal _ _) ?_ | with_reducible refine And.imp_right (And.imp_right (SeqQ_normal _ _)) ?_ | with_reducible refine And.imp_right (And.imp_right (And.imp_right (SeqQ_normal _ _))) ?_ | rw [awp_seq] | simp only [pkS, TyB,  implies_true, forall_const, Nat.reduceSub, Nat.reduceEqDiff, Nat.reduceAdd, Nat.reduceMul, Nat.reduceLeDiff, Nat.reduceLT, Nat.reduceBEq, reduceCtorEq])
      have hn : nameP s = false := by
        unfold nameP
        rw [show ((List.range s.size).all fun j => okByte (s.data.getD j 0)) = false from List.all_eq_false.2 ⟨i, List.mem_range.2 hi, by rw [hok]; revert hb2; simp; omega⟩, Bool.false_and]
      rw [hn]
    · repeat (first | with_reducible refine SeqQ_normal _ _ ?_ | with_reducible refine And.imp_right (SeqQ_normal _ _) ?_ | with_reducible refine And.imp_right (And.imp_right (SeqQ_normal _ _)) ?_ | with_reducible refine And.imp_right (And.imp_right (And.imp_right (SeqQ_normal _ _))) ?_ | rw [awp_seq] | simp only [pkS, TyB,  implies_true, forall_const, Nat.reduceSub, Nat.reduceEqDiff, Nat.reduceAdd, Nat.reduceMul, Nat.reduceLeDiff, Nat.reduceLT, Nat.reduceBEq, reduceCtorEq])
      refine hK _ (i + 1) (Gh.fgt ?_) ⟨hi, fun j hj => ?_⟩ (by omega)
      · simp only [i64_succ hi (by omega), fgt_dead, fgt_same, fgt_nil]
      · rcases Nat.lt_or_ge j i with h | h
        · exact h2 j h
        · rw [show j = i from by omega, hok]; revert hb2; simp; omega
  · repeat (first | with_reducible refine SeqQ_normal _ _ ?_ | with_reducible refine And.imp_right (SeqQ_normal _ _) ?_ | with_reducible refine And.imp_right (And.imp_right (SeqQ_normal _ _)) ?_ | with_reducible refine And.imp_right (And.imp_right (And.imp_right (SeqQ_normal _ _))) ?_ | rw [awp_seq] | simp only [pkS, TyB,  implies_true, forall_const, Nat.reduceSub, Nat.reduceEqDiff, Nat.reduceAdd, Nat.reduceMul, Nat.reduceLeDiff, Nat.reduceLT, Nat.reduceBEq, reduceCtorEq])
    have hi : i = s.size := by
      have : ¬ (i : Int) < s.size := by simpa using hge
      omega
    have hn : nameP s = true := by
      unfold nameP
      rw [show ((List.range s.size).all fun j => okByte (s.data.getD j 0)) = true from List.all_eq_true.2 fun j hj => h2 j (by rw [hi]; exact List.mem_range.1 hj), Bool.true_and, hsz]
    rw [hn]
theorem mayR_ok (k n : Int) (s : ByteArray) (hs : s.size < 2 ^ 62) : CallOK Tryz.prog 87 [.f (.agg [di k, di n, dS s])] (fun r o => r = [rb (mayP k n s)] ∧ o = []) := by
  refine callOK_of TOKTy mixed (T := Ty) (n := 38) Tryz.func87 (c := Tryz.f87.body.getD .skip) rfl Tryz.results87 Tryz.ntmps87 Tryz.call87 ?_
  simp only [Tryz.f87, Option.getD]
  repeat' (first | with_reducible refine SeqQ_normal _ _ ?_ | rw [awp_seq] | simp only [pkS, TyB,  implies_true, forall_const, Nat.reduceSub, Nat.reduceEqDiff, Nat.reduceAdd, Nat.reduceMul, Nat.reduceLeDiff, Nat.reduceLT, Nat.reduceBEq, reduceCtorEq] | ((try refine CallRG_tt ?_); apply CallR_of; (solve | exact (nameR_ok _ hs) | exact (high4_ok _ _) | (refine CallOK.le (nameR_ok _ hs) ?_; simp [argsLe, aLe, csLe, cLe]) | (refine CallOK.le (high4_ok _ _) ?_; simp [argsLe, aLe, csLe, cLe]))) | (apply CallRG_of; (focus (intro _; (solve | exact (nameR_ok _ hs) | exact (high4_ok _ _) | (refine CallOK.le (nameR_ok _ hs) ?_; simp [argsLe, aLe, csLe, cLe]) | (refine CallOK.le (high4_ok _ _) ?_; simp [argsLe, aLe, csLe, cLe])))); (focus rfl)) | refine CallRG_no ?_ | refine CondR_of (fun hb => ?_) (fun hb => ?_) | (refine And.intro ?_ ?_; focus ((try with_reducible refine GIm_of ?_); first | (with_reducible rfl) | ((with_reducible first | refine rng_of ?_ | refine ordOK_of ?_ | refine chk_of ?_); kernel_rfl) | (intros; omega) | (intro q p; rw [q, p]; rfl) | (intro q; rw [q]; rfl) | (intro q; simp only [Bool.and_eq_true, decide_eq_true_eq, beq_iff_eq] at q; omega) | (intros; simp_all; done) | (intros; simp [List.range, List.range.loop]; done) | (intros; simp_all [List.range, List.range.loop]; done))) | refine And.intro (fun hg => ?_) (fun hg => ?_) | (with_reducible refine chk_of ?_; kernel_rfl) | fail)
  all_goals refine congrArg (fun b => [rb b]) ?_
  all_goals simp only [beq_iff_eq, beq_eq_false_iff_ne, ne_eq] at *
  all_goals first
    | (exfalso; omega)
    | (subst_vars; unfold mayP; generalize (s.toList == (⟨#[]⟩ : ByteArray).toList) = q; generalize nameP s = p; cases q <;> cases p <;> simp; done)
    | (have e : (decide (k < 1) || decide (k > 6)) = true := by (simp; omega)
       unfold mayP; rw [if_pos e])
theorem mayReqR_ok (r : Req) (hr : r.ok) : CallOK Tryz.prog 70 [.f (.agg (r.enc.map C.d))] (fun x o => x = [rb (Req.may r)] ∧ o = []) := by
  refine callOK_of TOKTy mixed (T := Ty) (n := 21) Tryz.func70 (c := Tryz.f70.body.getD .skip) rfl Tryz.results70 Tryz.ntmps70 Tryz.call70 ?_
  simp only [Tryz.f70, Option.getD]
  repeat' (first | with_reducible refine SeqQ_normal _ _ ?_ | rw [awp_seq] | simp only [pkS, TyB,  implies_true, forall_const, Nat.reduceSub, Nat.reduceEqDiff, Nat.reduceAdd, Nat.reduceMul, Nat.reduceLeDiff, Nat.reduceLT, Nat.reduceBEq, reduceCtorEq] | ((try refine CallRG_tt ?_); apply CallR_of; (solve | exact (mayR_ok _ _ _ hr.2.2.2.2) | exact (high4_ok _ _) | (refine CallOK.le (mayR_ok _ _ _ hr.2.2.2.2) ?_; simp [argsLe, aLe, csLe, cLe]) | (refine CallOK.le (high4_ok _ _) ?_; simp [argsLe, aLe, csLe, cLe]))) | (apply CallRG_of; (focus (intro _; (solve | exact (mayR_ok _ _ _ hr.2.2.2.2) | exact (high4_ok _ _) | (refine CallOK.le (mayR_ok _ _ _ hr.2.2.2.2) ?_; simp [argsLe, aLe, csLe, cLe]) | (refine CallOK.le (high4_ok _ _) ?_; simp [argsLe, aLe, csLe, cLe])))); (focus rfl)) | refine CallRG_no ?_ | refine CondR_of (fun hb => ?_) (fun hb => ?_) | (refine And.intro ?_ ?_; focus ((try with_reducible refine GIm_of ?_); first | (with_reducible rfl) | ((with_reducible first | refine rng_of ?_ | refine ordOK_of ?_ | refine chk_of ?_); kernel_rfl) | (intros; omega) | (intro q p; rw [q, p]; rfl) | (intro q; rw [q]; rfl) | (intro q; simp only [Bool.and_eq_true, decide_eq_true_eq, beq_iff_eq] at q; omega) | (intros; simp_all; done) | (intros; simp [List.range, List.range.loop]; done) | (intros; simp_all [List.range, List.range.loop]; done))) | refine And.intro (fun hg => ?_) (fun hg => ?_) | (with_reducible refine chk_of ?_; kernel_rfl) | fail)
  simp [Req.may, Bool.and_assoc]
/-- Requests that may be, of unlike clients. -/
def reqsMay (l : List Req) : Nat → List Req → Bool
  | _, [] => true
  | i, r :: rest => if (!Req.may r || (l.take i).any (fun o => o.client == r.client)) = true then false else reqsMay l (i + 1) rest
def Batch.may (b : Batch) : Bool :=
  if b.fill = true then b.view == 0 && b.time == 0 && (b.tip.view == 0 && b.tip.slot == 0) && (b.reqs.length : Int) == 0
  else if (!![b.view, b.time, b.tip.view, b.tip.slot].any bad || decide ((b.reqs.length : Int) > 3)) = true then false else reqsMay b.reqs 0 b.reqs
theorem batchMay_ok (b : Batch) (hok : b.ok) : CallOK Tryz.prog 45 [.f (.agg b.lent)] (fun r o => r = [rb (Batch.may b)] ∧ o = []) := by
  have hlen : b.reqs.length < 2 ^ 42 := hok.2.2.2.2.1
  have hreq : ∀ r ∈ b.reqs, r.ok := hok.2.2.2.2.2
  refine callOK_of TOKTy mixed (T := Ty) (n := 66) Tryz.func45 (c := Tryz.f45.body.getD .skip) rfl Tryz.results45 Tryz.ntmps45 Tryz.call45 ?_
  simp only [Tryz.f45, Option.getD]
  repeat' (first | with_reducible refine SeqQ_normal _ _ ?_ | rw [awp_seq] | simp only [pkS, TyB,  implies_true, forall_const, Nat.reduceSub, Nat.reduceEqDiff, Nat.reduceAdd, Nat.reduceMul, Nat.reduceLeDiff, Nat.reduceLT, Nat.reduceBEq, reduceCtorEq] | ((try refine CallRG_tt ?_); apply CallR_of; (solve | exact (within_ok [_, _, _, _] (by simp)) | (refine CallOK.le (within_ok [_, _, _, _] (by simp)) ?_; simp [argsLe, aLe, csLe, cLe]))) | (apply CallRG_of; (focus (intro _; (solve | exact (within_ok [_, _, _, _] (by simp)) | (refine CallOK.le (within_ok [_, _, _, _] (by simp)) ?_; simp [argsLe, aLe, csLe, cLe])))); (focus rfl)) | refine CallRG_no ?_ | refine CondR_of (fun hb => ?_) (fun hb => ?_) | (refine And.intro ?_ ?_; focus ((try with_reducible refine GIm_of ?_); first | (with_reducible rfl) | ((with_reducible first | refine rng_of ?_ | refine ordOK_of ?_ | refine chk_of ?_); kernel_rfl) | (intros; omega) | (intro q p; rw [q, p]; rfl) | (intro q; rw [q]; rfl) | (intro q; simp only [Bool.and_eq_true, decide_eq_true_eq, beq_iff_eq] at q; omega) | (intros; simp_all; done) | (intros; simp [List.range, List.range.loop]; done) | (intros; simp_all [List.range, List.range.loop]; done))) | refine And.intro (fun hg => ?_) (fun hg => ?_) | (with_reducible refine chk_of ?_; kernel_rfl) | fail)
  · rw [Batch.may, if_pos (by assumption)]
  · rw [Batch.may, if_neg (by simp_all), if_pos (by assumption)]
  rename_i hf
  have hm : Batch.may b = reqsMay b.reqs 0 b.reqs := by rw [Batch.may, if_neg (by simp [hf]), if_neg (by rw [hb]; simp)]
  rw [hm]
  repeat (first | with_reducible refine SeqQ_normal _ _ ?_ | with_reducible refine And.imp_right (SeqQ_normal _ _) ?_ | with_reducible refine And.imp_right (And.imp_right (SeqQ_normal _ _)) ?_ | with_reducible refine And.imp_right (And.imp_right (And.imp_right (SeqQ_normal _ _))) ?_ | rw [awp_seq] | simp only [pkS, TyB,  implies_true, forall_const, Nat.reduceSub, Nat.reduceEqDiff, Nat.reduceAdd, Nat.reduceMul, Nat.reduceLeDiff, Nat.reduceLT, Nat.reduceBEq, reduceCtorEq])
  refine LoopR_fn (τ := Nat × Nat) (fun t => ⟨[dd, .one (.ptr ⟨1, 0, 0⟩ 0), ab false, dd, dd, dd, dd, dd, dd, dd, dd, dd, dd, dd, dd, dd, dd, dd, dd, dd, dd, dd, dd, dd, dd, dd, dd, dd, dd, dd, dd, dd, dd, dd, dd, dd, dd, dd, dd, dd, dd, dd, dd, dd, dd, dd, dd, al b.reqs.length (reqsE b.reqs), ai b.reqs.length, ai t.1, dd, dd, dd, dd, dd, dd, dd, dd, dd, dd, dd, dd, dd, dd, dd, dd],
    [(1, { next := 7, l := [some { e := 0, var := true, fz := false, sz := 0, cells := [db b.fill, di b.view, di b.tip.view, di b.tip.slot, di b.time, .lent b.reqs.length (reqsE b.reqs)] }, none, none, none, none, none, none] }), (37, ⟨1, []⟩), (4, ⟨t.2, []⟩)]⟩)
    (fun t => t.1 ≤ b.reqs.length) (fun t => reqsMay b.reqs t.1 (b.reqs.drop t.1)) (fun t => b.reqs.length - t.1) (0, 0) (Gh.keep [1] [4] ?_ rfl) (Nat.zero_le _) ?_
  · simp only [fgt_dead, fgt_same, fgt_nil, Int.natCast_zero]
  intro ⟨i, e⟩ hi0 hF K hK
  simp only at hi0 hF hK ⊢
  repeat (first | with_reducible refine SeqQ_normal _ _ ?_ | with_reducible refine And.imp_right (SeqQ_normal _ _) ?_ | with_reducible refine And.imp_right (And.imp_right (SeqQ_normal _ _)) ?_ | with_reducible refine And.imp_right (And.imp_right (And.imp_right (SeqQ_normal _ _))) ?_ | rw [awp_seq] | simp only [pkS, TyB,  implies_true, forall_const, Nat.reduceSub, Nat.reduceEqDiff, Nat.reduceAdd, Nat.reduceMul, Nat.reduceLeDiff, Nat.reduceLT, Nat.reduceBEq, reduceCtorEq])
  rw [CondR_bool]
  refine ⟨trivial, fun hlt => ?_, fun hge => ?_⟩
  · have hi : i < b.reqs.length := by simpa using hlt
    rw [List.drop_eq_getElem_cons hi, reqsMay] at hF
    have hat := reqs_at hi
    simp only [List.cons_append, List.nil_append] at hat
    have hro := hreq _ (List.getElem_mem hi)
    have hlt' : (b.reqs.take i).length = i := by rw [List.length_take]; omega
    have hc := contains_req (b.reqs.take i) (by omega) (fun o => o.client == b.reqs[i].client) 69 [.elt b.reqs[i].enc] rfl rfl (fun x _ => sameClient_ok x _)
    rw [hlt', ← take_reqs hi0] at hc
    repeat' (first | with_reducible refine SeqQ_normal _ _ ?_ | rw [awp_seq] | simp only [pkS, TyB, reqs_len, hat, Int.toNat_zero, Int.toNat_natCast, Nat.sub_zero, Int.natCast_zero, implies_true, forall_const, Nat.reduceSub, Nat.reduceEqDiff, Nat.reduceAdd, Nat.reduceMul, Nat.reduceLeDiff, Nat.reduceLT, Nat.reduceBEq, reduceCtorEq] | ((try refine CallRG_tt ?_); apply CallR_of; (solve | exact (mayReq_ok _ hro) | exact (hc) | (refine CallOK.le (mayReq_ok _ hro) ?_; simp [argsLe, aLe, csLe, cLe]) | (refine CallOK.le (hc) ?_; simp [argsLe, aLe, csLe, cLe]))) | (apply CallRG_of; (focus (intro _; (solve | exact (mayReq_ok _ hro) | exact (hc) | (refine CallOK.le (mayReq_ok _ hro) ?_; simp [argsLe, aLe, csLe, cLe]) | (refine CallOK.le (hc) ?_; simp [argsLe, aLe, csLe, cLe])))); (focus rfl)) | refine CallRG_no ?_ | refine CondR_of (fun hb => ?_) (fun hb => ?_) | (refine And.intro ?_ ?_; focus ((try with_reducible refine GIm_of ?_); first | (with_reducible rfl) | ((with_reducible first | refine rng_of ?_ | refine ordOK_of ?_ | refine chk_of ?_); kernel_rfl) | (intros; omega) | (intro q p; rw [q, p]; rfl) | (intro q; rw [q]; rfl) | (intro q; simp only [Bool.and_eq_true, decide_eq_true_eq, beq_iff_eq] at q; omega) | (intros; simp_all; done) | (intros; simp [List.range, List.range.loop]; done) | (intros; simp_all [List.range, List.range.loop]; done))) | refine And.intro (fun hg => ?_) (fun hg => ?_) | (with_reducible refine chk_of ?_; kernel_rfl) | fail)
    · rw [if_pos hb, List.drop_zero] at hF
      rw [← hF]
    · rw [if_neg (by rw [hb]; simp)] at hF
      refine hK _ (i + 1, _) (Gh.keep [1] [] ?_ rfl) hi (by simp only [List.drop_eq_getElem_cons hi, reqsMay]; rw [if_neg (by rw [hb]; simp)]) (by simp only; omega)
      simp only [i64_succ hi (by omega), fgt_dead, fgt_same, fgt_nil]
  · have hi : i = b.reqs.length := by
      have : ¬ (i : Int) < b.reqs.length := by simpa using hge
      omega
    rw [hi, List.drop_length, List.drop_zero, reqsMay] at hF
    repeat (first | with_reducible refine SeqQ_normal _ _ ?_ | with_reducible refine And.imp_right (SeqQ_normal _ _) ?_ | with_reducible refine And.imp_right (And.imp_right (SeqQ_normal _ _)) ?_ | with_reducible refine And.imp_right (And.imp_right (And.imp_right (SeqQ_normal _ _))) ?_ | rw [awp_seq] | simp only [pkS, TyB,  implies_true, forall_const, Nat.reduceSub, Nat.reduceEqDiff, Nat.reduceAdd, Nat.reduceMul, Nat.reduceLeDiff, Nat.reduceLT, Nat.reduceBEq, reduceCtorEq])
    rw [← hF]
theorem reqs_ok (l : List Req) (hl : l.length < 2 ^ 42) (hreq : ∀ r ∈ l, r.ok) : CallOK Tryz.prog 47 [.f (al l.length (reqsE l))] (fun r o => r = [rb (if decide ((l.length : Int) > 3) = true then false else reqsMay l 0 l)] ∧ o = []) := by
  refine callOK_of TOKTy mixed (T := Ty) (n := 36) Tryz.func47 (c := Tryz.f47.body.getD .skip) rfl Tryz.results47 Tryz.ntmps47 Tryz.call47 ?_
  simp only [Tryz.f47, Option.getD]
  repeat (first | with_reducible refine SeqQ_normal _ _ ?_ | with_reducible refine And.imp_right (SeqQ_normal _ _) ?_ | with_reducible refine And.imp_right (And.imp_right (SeqQ_normal _ _)) ?_ | with_reducible refine And.imp_right (And.imp_right (And.imp_right (SeqQ_normal _ _))) ?_ | rw [awp_seq] | simp only [pkS, TyB,  implies_true, forall_const, Nat.reduceSub, Nat.reduceEqDiff, Nat.reduceAdd, Nat.reduceMul, Nat.reduceLeDiff, Nat.reduceLT, Nat.reduceBEq, reduceCtorEq])
  refine CondR_of (fun hb => ?_) (fun hb => ?_)
  · repeat (first | with_reducible refine SeqQ_normal _ _ ?_ | with_reducible refine And.imp_right (SeqQ_normal _ _) ?_ | with_reducible refine And.imp_right (And.imp_right (SeqQ_normal _ _)) ?_ | with_reducible refine And.imp_right (And.imp_right (And.imp_right (SeqQ_normal _ _))) ?_ | rw [awp_seq] | simp only [pkS, TyB,  implies_true, forall_const, Nat.reduceSub, Nat.reduceEqDiff, Nat.reduceAdd, Nat.reduceMul, Nat.reduceLeDiff, Nat.reduceLT, Nat.reduceBEq, reduceCtorEq])
    rw [if_pos hb]
  rw [if_neg (by rw [hb]; simp)]
  repeat (first | with_reducible refine SeqQ_normal _ _ ?_ | with_reducible refine And.imp_right (SeqQ_normal _ _) ?_ | with_reducible refine And.imp_right (And.imp_right (SeqQ_normal _ _)) ?_ | with_reducible refine And.imp_right (And.imp_right (And.imp_right (SeqQ_normal _ _))) ?_ | rw [awp_seq] | simp only [pkS, TyB,  implies_true, forall_const, Nat.reduceSub, Nat.reduceEqDiff, Nat.reduceAdd, Nat.reduceMul, Nat.reduceLeDiff, Nat.reduceLT, Nat.reduceBEq, reduceCtorEq])
  refine LoopR_fn (τ := Nat) (fun i => ⟨[al l.length (reqsE l), dd, ab false, ai i, dd, dd, dd, dd, dd, dd, dd, dd, dd, dd, dd, dd, dd, dd, dd, dd, dd, dd, dd, dd, dd, dd, dd, dd, dd, dd, dd, dd, dd, dd, dd, dd], []⟩)
    (fun i => i ≤ l.length) (fun i => reqsMay l i (l.drop i)) (fun i => l.length - i) 0 (Gh.fgt ?_) (Nat.zero_le _) ?_
  · simp only [fgt_dead, fgt_same, fgt_nil, Int.natCast_zero]
  intro i hi0 hF K hK
  repeat (first | with_reducible refine SeqQ_normal _ _ ?_ | with_reducible refine And.imp_right (SeqQ_normal _ _) ?_ | with_reducible refine And.imp_right (And.imp_right (SeqQ_normal _ _)) ?_ | with_reducible refine And.imp_right (And.imp_right (And.imp_right (SeqQ_normal _ _))) ?_ | rw [awp_seq] | simp only [pkS, TyB,  implies_true, forall_const, Nat.reduceSub, Nat.reduceEqDiff, Nat.reduceAdd, Nat.reduceMul, Nat.reduceLeDiff, Nat.reduceLT, Nat.reduceBEq, reduceCtorEq])
  refine CondR_of (fun hlt => ?_) (fun hge => ?_)
  · have hi : i < l.length := by simpa using hlt
    rw [List.drop_eq_getElem_cons hi, reqsMay] at hF
    have hat := reqs_at hi
    simp only [List.cons_append, List.nil_append] at hat
    have hro := hreq _ (List.getElem_mem hi)
    repeat' (first | with_reducible refine SeqQ_normal _ _ ?_ | rw [awp_seq] | simp only [pkS, TyB, reqs_len, hat, implies_true, forall_const, Nat.reduceSub, Nat.reduceEqDiff, Nat.reduceAdd, Nat.reduceMul, Nat.reduceLeDiff, Nat.reduceLT, Nat.reduceBEq, reduceCtorEq] | ((try refine CallRG_tt ?_); apply CallR_of; (solve | exact (mayReqR_ok _ hro) | (refine CallOK.le (mayReqR_ok _ hro) ?_; simp [argsLe, aLe, csLe, cLe]))) | (apply CallRG_of; (focus (intro _; (solve | exact (mayReqR_ok _ hro) | (refine CallOK.le (mayReqR_ok _ hro) ?_; simp [argsLe, aLe, csLe, cLe])))); (focus rfl)) | refine CallRG_no ?_ | refine CondR_of (fun hb => ?_) (fun hb => ?_) | (refine And.intro ?_ ?_; focus ((try with_reducible refine GIm_of ?_); first | (with_reducible rfl) | ((with_reducible first | refine rng_of ?_ | refine ordOK_of ?_ | refine chk_of ?_); kernel_rfl) | (intros; omega) | (intro q p; rw [q, p]; rfl) | (intro q; rw [q]; rfl) | (intro q; simp only [Bool.and_eq_true, decide_eq_true_eq, beq_iff_eq] at q; omega) | (intros; simp_all; done) | (intros; simp [List.range, List.range.loop]; done) | (intros; simp_all [List.range, List.range.loop]; done))) | refine And.intro (fun hg => ?_) (fun hg => ?_) | (with_reducible refine chk_of ?_; kernel_rfl) | fail)
    · rw [if_pos (by rw [hb]; rfl), List.drop_zero] at hF
      rw [← hF]
    rename_i hm
    have hm : Req.may l[i] = true := by simpa using hb
    repeat (first | with_reducible refine SeqQ_normal _ _ ?_ | with_reducible refine And.imp_right (SeqQ_normal _ _) ?_ | with_reducible refine And.imp_right (And.imp_right (SeqQ_normal _ _)) ?_ | with_reducible refine And.imp_right (And.imp_right (And.imp_right (SeqQ_normal _ _))) ?_ | rw [awp_seq] | simp only [pkS, TyB,  implies_true, forall_const, Nat.reduceSub, Nat.reduceEqDiff, Nat.reduceAdd, Nat.reduceMul, Nat.reduceLeDiff, Nat.reduceLT, Nat.reduceBEq, reduceCtorEq])
    refine LoopR_fn (τ := Nat) (fun k => ⟨[al l.length (reqsE l), dd, ab false, ai i, ai k, dd, dd, dd, dd, dd, dd, dd, dd, dd, dd, dd, dd, dd, dd, dd, dd, dd, dd, dd, dd, dd, dd, dd, dd, dd, dd, dd, dd, dd, dd, dd], []⟩)
      (fun k => k ≤ i) (fun k => ((l.take i).drop k).any (fun o => o.client == l[i].client)) (fun k => i - k) 0 (Gh.fgt ?_) (Nat.zero_le _) ?_
    · simp only [fgt_dead, fgt_same, fgt_nil, Int.natCast_zero]
    intro k hk0 hF2 K2 hK2
    repeat (first | with_reducible refine SeqQ_normal _ _ ?_ | with_reducible refine And.imp_right (SeqQ_normal _ _) ?_ | with_reducible refine And.imp_right (And.imp_right (SeqQ_normal _ _)) ?_ | with_reducible refine And.imp_right (And.imp_right (And.imp_right (SeqQ_normal _ _))) ?_ | rw [awp_seq] | simp only [pkS, TyB,  implies_true, forall_const, Nat.reduceSub, Nat.reduceEqDiff, Nat.reduceAdd, Nat.reduceMul, Nat.reduceLeDiff, Nat.reduceLT, Nat.reduceBEq, reduceCtorEq])
    refine CondR_of (fun hlt2 => ?_) (fun hge2 => ?_)
    · have hk : k < i := by simpa using hlt2
      have hkl : k < l.length := by omega
      have hat2 := reqs_at hkl
      simp only [List.cons_append, List.nil_append] at hat2
      have hd : (l.take i).drop k = l[k] :: (l.take i).drop (k + 1) := by
        rw [List.drop_eq_getElem_cons (by rw [List.length_take]; omega)]
        congr 1
        rw [List.getElem_take]
      rw [hd, List.any_cons, List.drop_zero] at hF2
      repeat' (first | with_reducible refine SeqQ_normal _ _ ?_ | rw [awp_seq] | simp only [pkS, TyB, reqs_len, hat, hat2, implies_true, forall_const, Nat.reduceSub, Nat.reduceEqDiff, Nat.reduceAdd, Nat.reduceMul, Nat.reduceLeDiff, Nat.reduceLT, Nat.reduceBEq, reduceCtorEq] | refine CallRG_no ?_ | refine CondR_of (fun hb => ?_) (fun hb => ?_) | (refine And.intro ?_ ?_; focus ((try with_reducible refine GIm_of ?_); first | (with_reducible rfl) | ((with_reducible first | refine rng_of ?_ | refine ordOK_of ?_ | refine chk_of ?_); kernel_rfl) | (intros; omega) | (intro q p; rw [q, p]; rfl) | (intro q; rw [q]; rfl) | (intro q; simp only [Bool.and_eq_true, decide_eq_true_eq, beq_iff_eq] at q; omega) | (intros; simp_all; done) | (intros; simp [List.range, List.range.loop]; done) | (intros; simp_all [List.range, List.range.loop]; done))) | refine And.intro (fun hg => ?_) (fun hg => ?_) | (with_reducible refine chk_of ?_; kernel_rfl) | fail)
      · rw [hb, Bool.true_or] at hF2
        rw [if_pos (by rw [← hF2, Bool.or_true]), List.drop_zero] at hF
        rw [← hF]
      · rw [hb, Bool.false_or] at hF2
        refine hK2 _ (k + 1) (Gh.fgt ?_) hk (by rw [hd, List.any_cons, hb, Bool.false_or]) (by omega)
        simp only [i64_succ hk (by omega), fgt_dead, fgt_same, fgt_nil]
    · have hk : k = i := by
        have : ¬ (k : Int) < i := by simpa using hge2
        omega
      rw [hk, List.drop_of_length_le (by rw [List.length_take]; omega), List.any_nil, List.drop_zero] at hF2
      rw [if_neg (by rw [← hF2, hm]; simp)] at hF
      repeat (first | with_reducible refine SeqQ_normal _ _ ?_ | with_reducible refine And.imp_right (SeqQ_normal _ _) ?_ | with_reducible refine And.imp_right (And.imp_right (SeqQ_normal _ _)) ?_ | with_reducible refine And.imp_right (And.imp_right (And.imp_right (SeqQ_normal _ _))) ?_ | rw [awp_seq] | simp only [pkS, TyB,  implies_true, forall_const, Nat.reduceSub, Nat.reduceEqDiff, Nat.reduceAdd, Nat.reduceMul, Nat.reduceLeDiff, Nat.reduceLT, Nat.reduceBEq, reduceCtorEq])
      refine hK _ (i + 1) (Gh.fgt ?_) hi (by simp only [List.drop_eq_getElem_cons hi, reqsMay]; rw [if_neg (by rw [← hF2, hm]; simp)]) (by omega)
      simp only [i64_succ hi (by omega), fgt_dead, fgt_same, fgt_nil]
  · have hi : i = l.length := by
      have : ¬ (i : Int) < l.length := by simpa using hge
      omega
    rw [hi, List.drop_length, List.drop_zero, reqsMay] at hF
    repeat (first | with_reducible refine SeqQ_normal _ _ ?_ | with_reducible refine And.imp_right (SeqQ_normal _ _) ?_ | with_reducible refine And.imp_right (And.imp_right (SeqQ_normal _ _)) ?_ | with_reducible refine And.imp_right (And.imp_right (And.imp_right (SeqQ_normal _ _))) ?_ | rw [awp_seq] | simp only [pkS, TyB,  implies_true, forall_const, Nat.reduceSub, Nat.reduceEqDiff, Nat.reduceAdd, Nat.reduceMul, Nat.reduceLeDiff, Nat.reduceLT, Nat.reduceBEq, reduceCtorEq])
    rw [← hF]
theorem batchMayR_ok (b : Batch) (hok : b.ok) : CallOK Tryz.prog 62 [.f (.agg b.lent)] (fun r o => r = [rb (Batch.may b)] ∧ o = []) := by
  refine callOK_of TOKTy mixed (T := Ty) (n := 43) Tryz.func62 (c := Tryz.f62.body.getD .skip) rfl Tryz.results62 Tryz.ntmps62 Tryz.call62 ?_
  simp only [Tryz.f62, Option.getD]
  repeat' (first | with_reducible refine SeqQ_normal _ _ ?_ | rw [awp_seq] | simp only [pkS, TyB,  implies_true, forall_const, Nat.reduceSub, Nat.reduceEqDiff, Nat.reduceAdd, Nat.reduceMul, Nat.reduceLeDiff, Nat.reduceLT, Nat.reduceBEq, reduceCtorEq] | ((try refine CallRG_tt ?_); apply CallR_of; (solve | exact (high_ok _ _) | exact (mayTip_ok b.tip) | exact (reqs_ok b.reqs hok.2.2.2.2.1 hok.2.2.2.2.2) | (refine CallOK.le (high_ok _ _) ?_; simp [argsLe, aLe, csLe, cLe]) | (refine CallOK.le (mayTip_ok b.tip) ?_; simp [argsLe, aLe, csLe, cLe]) | (refine CallOK.le (reqs_ok b.reqs hok.2.2.2.2.1 hok.2.2.2.2.2) ?_; simp [argsLe, aLe, csLe, cLe]))) | (apply CallRG_of; (focus (intro _; (solve | exact (high_ok _ _) | exact (mayTip_ok b.tip) | exact (reqs_ok b.reqs hok.2.2.2.2.1 hok.2.2.2.2.2) | (refine CallOK.le (high_ok _ _) ?_; simp [argsLe, aLe, csLe, cLe]) | (refine CallOK.le (mayTip_ok b.tip) ?_; simp [argsLe, aLe, csLe, cLe]) | (refine CallOK.le (reqs_ok b.reqs hok.2.2.2.2.1 hok.2.2.2.2.2) ?_; simp [argsLe, aLe, csLe, cLe])))); (focus rfl)) | refine CallRG_no ?_ | refine CondR_of (fun hb => ?_) (fun hb => ?_) | (refine And.intro ?_ ?_; focus ((try with_reducible refine GIm_of ?_); first | (with_reducible rfl) | ((with_reducible first | refine rng_of ?_ | refine ordOK_of ?_ | refine chk_of ?_); kernel_rfl) | (intros; omega) | (intro q p; rw [q, p]; rfl) | (intro q; rw [q]; rfl) | (intro q; simp only [Bool.and_eq_true, decide_eq_true_eq, beq_iff_eq] at q; omega) | (intros; simp_all; done) | (intros; simp [List.range, List.range.loop]; done) | (intros; simp_all [List.range, List.range.loop]; done))) | refine And.intro (fun hg => ?_) (fun hg => ?_) | (with_reducible refine chk_of ?_; kernel_rfl) | fail)
  · rw [Batch.may, if_pos (by assumption)]
    refine congrArg (fun b => [rb b]) ?_
    ac_rfl
  · refine congrArg (fun b => [rb b]) ?_
    have e : (![b.view, b.time, b.tip.view, b.tip.slot].any bad) = (inH b.view && inH b.time && Tip.may b.tip) := by
      simp [Tip.may, ← bad_inH, Bool.and_assoc]
    rw [Batch.may, if_neg (show ¬ b.fill = true by rw [hb]; simp), e]
    show (inH b.view && inH b.time && Tip.may b.tip && _) = _
    generalize (inH b.view && inH b.time && Tip.may b.tip) = q
    generalize decide ((b.reqs.length : Int) > 3) = d
    cases q <;> cases d <;> rfl
end Go.Proofs.YtgiempmfpmlgnaaGreat

