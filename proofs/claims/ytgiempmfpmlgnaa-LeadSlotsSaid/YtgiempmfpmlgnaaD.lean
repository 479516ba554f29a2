/- Contracts: batches and promises that may be. -/
import Derived.Test.YtgiempmfpmlgnaaC
namespace Go.Proofs.Ytgiempmfpmlgnaa
open Go.Pk
set_option maxRecDepth 100000
set_option linter.unusedSimpArgs false
set_option linter.unusedVariables false
theorem i64_succ {i n : Nat} (h : i < n) (hn : n < 2 ^ 62) : IntKind.i64.wrap ((i : Int) + 1) = ((i + 1 : Nat) : Int) := by rw [wrap64 (by omega) (by omega)]; rfl
theorem take_reqs {l : List Req} {i : Nat} (hi : i ≤ l.length) : (reqsE l).take (i * 5) = reqsE (l.take i) := by
  have h : reqsE l = reqsE (l.take i) ++ reqsE (l.drop i) := by rw [← List.flatMap_append, List.take_append_drop]
  rw [h, List.take_left' (by rw [reqs_len, List.length_take]; congr 1; omega)]
theorem nameR_ok (s : ByteArray) (hs : s.size < 2 ^ 62) : CallOK Try.prog 101 [.f (ast s)] (fun r o => r = [rb (nameP s)] ∧ o = []) := by
  refine callOK_of TOKTy mixed (T := Ty) (n := 41) Try.func101 (c := Try.f101.body.getD .skip) rfl Try.results101 Try.ntmps101 Try.call101 ?_
  simp only [Try.f101, Option.getD]
  repeat (first | with_reducible refine SeqQ_normal _ _ ?_ | with_reducible refine And.imp_right (SeqQ_normal _ _) ?_ | with_reducible refine And.imp_right (And.imp_right (SeqQ_normal _ _)) ?_ | with_reducible refine And.imp_right (And.imp_right (And.imp_right (SeqQ_normal _ _))) ?_ | rw [awp_seq] | simp only [pkS, TyB, Nat.reduceSub,  if_true, if_false, implies_true, Nat.reduceEqDiff, Nat.reduceAdd, Nat.reduceMul, Nat.reduceLeDiff, Nat.reduceLT, Nat.reduceBEq, beq_self_eq_true, reduceCtorEq, imp_self, ne_eq, not_false_eq_true, beq_iff_eq, forall_const, true_implies])
  refine CondR_of (fun hb => ?_) (fun hb => ?_)
  · repeat (first | with_reducible refine SeqQ_normal _ _ ?_ | with_reducible refine And.imp_right (SeqQ_normal _ _) ?_ | with_reducible refine And.imp_right (And.imp_right (SeqQ_normal _ _)) ?_ | with_reducible refine And.imp_right (And.imp_right (And.imp_right (SeqQ_normal _ _))) ?_ | rw [awp_seq] | simp only [pkS, TyB, Nat.reduceSub,  if_true, if_false, implies_true, Nat.reduceEqDiff, Nat.reduceAdd, Nat.reduceMul, Nat.reduceLeDiff, Nat.reduceLT, Nat.reduceBEq, beq_self_eq_true, reduceCtorEq, imp_self, ne_eq, not_false_eq_true, beq_iff_eq, forall_const, true_implies])
    have : nameP s = false := by
      unfold nameP
      rw [Bool.and_eq_false_iff]; right
      simp only [Bool.or_eq_true, decide_eq_true_eq] at hb
      simp only [Bool.and_eq_false_iff, decide_eq_false_iff_not]
      omega
    rw [this]
  have hsz : (decide ((s.size : Int) ≥ 1) && decide ((s.size : Int) ≤ 12)) = true := by
    simp only [Bool.or_eq_false_iff, decide_eq_false_iff_not] at hb
    simp only [Bool.and_eq_true, decide_eq_true_eq]
    omega
  repeat (first | with_reducible refine SeqQ_normal _ _ ?_ | with_reducible refine And.imp_right (SeqQ_normal _ _) ?_ | with_reducible refine And.imp_right (And.imp_right (SeqQ_normal _ _)) ?_ | with_reducible refine And.imp_right (And.imp_right (And.imp_right (SeqQ_normal _ _))) ?_ | rw [awp_seq] | simp only [pkS, TyB, Nat.reduceSub,  if_true, if_false, implies_true, Nat.reduceEqDiff, Nat.reduceAdd, Nat.reduceMul, Nat.reduceLeDiff, Nat.reduceLT, Nat.reduceBEq, beq_self_eq_true, reduceCtorEq, imp_self, ne_eq, not_false_eq_true, beq_iff_eq, forall_const, true_implies])
  refine LoopR_ix Ty Try.prog (τ := Nat) (fun i => ⟨[ast s, dd, ab false, ai i, dd, dd, dd, dd, dd, dd, dd, dd, dd, dd, dd, dd, dd, dd, dd, dd, dd, dd, dd, dd, dd, dd, dd, dd, dd, dd, dd, dd, dd, dd, dd, dd, dd, dd, dd, dd, dd], []⟩) (fun i => i ≤ s.size ∧ ∀ j, j < i → okByte (s.data.getD j 0) = true) (fun i => s.size - i) 0 ?_ ⟨Nat.zero_le _, fun j hj => absurd hj (Nat.not_lt_zero j)⟩ ?_
  · refine Gh.fgt ?_
    simp only [fgt_dead, fgt_same, fgt_nil, Int.natCast_zero]
  intro i ⟨h1, h2⟩ K hK
  repeat (first | with_reducible refine SeqQ_normal _ _ ?_ | with_reducible refine And.imp_right (SeqQ_normal _ _) ?_ | with_reducible refine And.imp_right (And.imp_right (SeqQ_normal _ _)) ?_ | with_reducible refine And.imp_right (And.imp_right (And.imp_right (SeqQ_normal _ _))) ?_ | rw [awp_seq] | simp only [pkS, TyB, Nat.reduceSub,  if_true, if_false, implies_true, Nat.reduceEqDiff, Nat.reduceAdd, Nat.reduceMul, Nat.reduceLeDiff, Nat.reduceLT, Nat.reduceBEq, beq_self_eq_true, reduceCtorEq, imp_self, ne_eq, not_false_eq_true, beq_iff_eq, forall_const, true_implies])
  refine CondR_of (fun hlt => ?_) (fun hge => ?_)
  · have hi : i < s.size := by simpa using hlt
    repeat (first | with_reducible refine SeqQ_normal _ _ ?_ | with_reducible refine And.imp_right (SeqQ_normal _ _) ?_ | with_reducible refine And.imp_right (And.imp_right (SeqQ_normal _ _)) ?_ | with_reducible refine And.imp_right (And.imp_right (And.imp_right (SeqQ_normal _ _))) ?_ | rw [awp_seq] | simp only [pkS, TyB, Nat.reduceSub,  if_true, if_false, implies_true, Nat.reduceEqDiff, Nat.reduceAdd, Nat.reduceMul, Nat.reduceLeDiff, Nat.reduceLT, Nat.reduceBEq, beq_self_eq_true, reduceCtorEq, imp_self, ne_eq, not_false_eq_true, beq_iff_eq, forall_const, true_implies])
    refine ⟨⟨Int.natCast_nonneg i, by omega⟩, ?_⟩
    refine ⟨GIm_of ?_, ?_⟩
    · simp_all; omega
    have hok : okByte (s.data.getD i 0) = !((decide (((s.data.getD i 0).toNat:Int) < 97) || decide (((s.data.getD i 0).toNat:Int) > 122)) && (decide (((s.data.getD i 0).toNat:Int) < 48) || decide (((s.data.getD i 0).toNat:Int) > 57)) && (((s.data.getD i 0).toNat:Int) != 45)) := rfl
    generalize ((s.data.getD i 0).toNat : Int) = c at hok ⊢
    refine CondR_of (fun hb2 => ?_) (fun hb2 => ?_)
    · repeat (first | with_reducible refine SeqQ_normal _ _ ?_ | with_reducible refine And.imp_right (SeqQ_normal _ _) ?_ | with_reducible refine And.imp_right (And.imp_right (SeqQ_normal _ _)) ?_ | with_reducible refine And.imp_right (And.imp_right (And.imp_right (SeqQ_normal _ _))) ?_ | rw [awp_seq] | simp only [pkS, TyB, Nat.reduceSub,  if_true, if_false, implies_true, Nat.reduceEqDiff, Nat.reduceAdd, Nat.reduceMul, Nat.reduceLeDiff, Nat.reduceLT, Nat.reduceBEq, beq_self_eq_true, reduceCtorEq, imp_self, ne_eq, not_false_eq_true, beq_iff_eq, forall_const, true_implies])
      have hn : nameP s = false := by
        unfold nameP
        rw [show ((List.range s.size).all fun j => okByte (s.data.getD j 0)) = false from List.all_eq_false.2 ⟨i, List.mem_range.2 hi, by rw [hok]; revert hb2; simp; omega⟩, Bool.false_and]
      rw [hn]
    · repeat (first | with_reducible refine SeqQ_normal _ _ ?_ | with_reducible refine And.imp_right (SeqQ_normal _ _) ?_ | with_reducible refine And.imp_right (And.imp_right (SeqQ_normal _ _)) ?_ | with_reducible refine And.imp_right (And.imp_right (And.imp_right (SeqQ_normal _ _))) ?_ | rw [awp_seq] | simp only [pkS, TyB, Nat.reduceSub,  if_true, if_false, implies_true, Nat.reduceEqDiff, Nat.reduceAdd, Nat.reduceMul, Nat.reduceLeDiff, Nat.reduceLT, Nat.reduceBEq, beq_self_eq_true, reduceCtorEq, imp_self, ne_eq, not_false_eq_true, beq_iff_eq, forall_const, true_implies])
      refine hK _ (i + 1) (Gh.fgt ?_) ⟨hi, fun j hj => ?_⟩ (by omega)
      · simp only [i64_succ hi (by omega), fgt_dead, fgt_same, fgt_nil]
      · rcases Nat.lt_or_ge j i with h | h
        · exact h2 j h
        · rw [show j = i from by omega, hok]; revert hb2; simp; omega
  · repeat (first | with_reducible refine SeqQ_normal _ _ ?_ | with_reducible refine And.imp_right (SeqQ_normal _ _) ?_ | with_reducible refine And.imp_right (And.imp_right (SeqQ_normal _ _)) ?_ | with_reducible refine And.imp_right (And.imp_right (And.imp_right (SeqQ_normal _ _))) ?_ | rw [awp_seq] | simp only [pkS, TyB, Nat.reduceSub,  if_true, if_false, implies_true, Nat.reduceEqDiff, Nat.reduceAdd, Nat.reduceMul, Nat.reduceLeDiff, Nat.reduceLT, Nat.reduceBEq, beq_self_eq_true, reduceCtorEq, imp_self, ne_eq, not_false_eq_true, beq_iff_eq, forall_const, true_implies])
    have hi : i = s.size := by
      have : ¬ (i : Int) < s.size := by simpa using hge
      omega
    have hn : nameP s = true := by
      unfold nameP
      rw [show ((List.range s.size).all fun j => okByte (s.data.getD j 0)) = true from List.all_eq_true.2 fun j hj => h2 j (by rw [hi]; exact List.mem_range.1 hj), Bool.true_and, hsz]
    rw [hn]
theorem mayR_ok (k n : Int) (s : ByteArray) (hs : s.size < 2 ^ 62) : CallOK Try.prog 99 [.f (.agg [di k, di n, dS s])] (fun r o => r = [rb (mayP k n s)] ∧ o = []) := by
  refine callOK_of TOKTy mixed (T := Ty) (n := 38) Try.func99 (c := Try.f99.body.getD .skip) rfl Try.results99 Try.ntmps99 Try.call99 ?_
  simp only [Try.f99, Option.getD]
  repeat' (first | with_reducible refine SeqQ_normal _ _ ?_ | rw [awp_seq] | simp only [pkS, TyB, Nat.reduceSub,  if_true, if_false, implies_true, Nat.reduceEqDiff, Nat.reduceAdd, Nat.reduceMul, Nat.reduceLeDiff, Nat.reduceLT, Nat.reduceBEq, beq_self_eq_true, reduceCtorEq, imp_self, ne_eq, not_false_eq_true, beq_iff_eq, forall_const, true_implies] | refine CallR_of (nameR_ok _ hs) ?_ | refine CallR_of (high4_ok _ _) ?_ | (refine CallR_of (CallOK.le (nameR_ok _ hs) ?_) ?_; focus (simp [argsLe, aLe, csLe, cLe] <;> fail)) | (refine CallR_of (CallOK.le (high4_ok _ _) ?_) ?_; focus (simp [argsLe, aLe, csLe, cLe] <;> fail)) | refine CallRG_of (fun hg => nameR_ok _ hs) rfl ?_ | refine CallRG_of (fun hg => high4_ok _ _) rfl ?_ | (refine CallRG_of (fun hg => CallOK.le (nameR_ok _ hs) ?_) rfl ?_; focus (simp [argsLe, aLe, csLe, cLe] <;> fail)) | (refine CallRG_of (fun hg => CallOK.le (high4_ok _ _) ?_) rfl ?_; focus (simp [argsLe, aLe, csLe, cLe] <;> fail)) | (refine CallRG_tt ?_; refine CallR_of (nameR_ok _ hs) ?_) | (refine CallRG_tt ?_; refine CallR_of (high4_ok _ _) ?_) | (refine CallRG_tt ?_; refine CallR_of (CallOK.le (nameR_ok _ hs) ?_) ?_; focus (simp [argsLe, aLe, csLe, cLe] <;> fail)) | (refine CallRG_tt ?_; refine CallR_of (CallOK.le (high4_ok _ _) ?_) ?_; focus (simp [argsLe, aLe, csLe, cLe] <;> fail)) | refine CallRG_no ?_ | refine CondR_of (fun hb => ?_) (fun hb => ?_) | (refine And.intro ?_ ?_; focus ((try with_reducible refine GIm_of ?_); first | (with_reducible rfl) | (with_reducible refine rng_of ?_; rfl) | (with_reducible refine ordOK_of ?_; kernel_rfl) | (with_reducible refine chk_of ?_; kernel_rfl) | (intros; omega) | (intro q1 q2; rw [q1, q2]; rfl) | (intro q1; rw [q1]; rfl) | (intro q; simp only [Bool.and_eq_true, decide_eq_true_eq, beq_iff_eq] at q; omega) | (intros; simp_all; done) | (intros; simp [List.range, List.range.loop]; done) | (intros; simp_all [List.range, List.range.loop]; done))) | refine And.intro (fun hg => ?_) (fun hg => ?_) | (with_reducible refine chk_of ?_; kernel_rfl) | fail)
  all_goals refine congrArg (fun b => [rb b]) ?_
  all_goals simp only [beq_iff_eq, beq_eq_false_iff_ne, ne_eq] at *
  all_goals first
    | (exfalso; omega)
    | (subst_vars; unfold mayP; generalize (s.toList == (⟨#[]⟩ : ByteArray).toList) = q; generalize nameP s = p; cases q <;> cases p <;> simp; done)
    | (have e : (decide (k < 1) || decide (k > 6)) = true := by (simp; omega)
       unfold mayP; rw [if_pos e])
theorem mayReqR_ok (r : Req) (hr : r.ok) : CallOK Try.prog 92 [.f (.agg (r.enc.map C.d))] (fun x o => x = [rb (Req.may r)] ∧ o = []) := by
  refine callOK_of TOKTy mixed (T := Ty) (n := 21) Try.func92 (c := Try.f92.body.getD .skip) rfl Try.results92 Try.ntmps92 Try.call92 ?_
  simp only [Try.f92, Option.getD]
  repeat' (first | with_reducible refine SeqQ_normal _ _ ?_ | rw [awp_seq] | simp only [pkS, TyB, Nat.reduceSub,  if_true, if_false, implies_true, Nat.reduceEqDiff, Nat.reduceAdd, Nat.reduceMul, Nat.reduceLeDiff, Nat.reduceLT, Nat.reduceBEq, beq_self_eq_true, reduceCtorEq, imp_self, ne_eq, not_false_eq_true, beq_iff_eq, forall_const, true_implies] | refine CallR_of (mayR_ok _ _ _ hr.2.2.2.2) ?_ | refine CallR_of (high4_ok _ _) ?_ | (refine CallR_of (CallOK.le (mayR_ok _ _ _ hr.2.2.2.2) ?_) ?_; focus (simp [argsLe, aLe, csLe, cLe] <;> fail)) | (refine CallR_of (CallOK.le (high4_ok _ _) ?_) ?_; focus (simp [argsLe, aLe, csLe, cLe] <;> fail)) | refine CallRG_of (fun hg => mayR_ok _ _ _ hr.2.2.2.2) rfl ?_ | refine CallRG_of (fun hg => high4_ok _ _) rfl ?_ | (refine CallRG_of (fun hg => CallOK.le (mayR_ok _ _ _ hr.2.2.2.2) ?_) rfl ?_; focus (simp [argsLe, aLe, csLe, cLe] <;> fail)) | (refine CallRG_of (fun hg => CallOK.le (high4_ok _ _) ?_) rfl ?_; focus (simp [argsLe, aLe, csLe, cLe] <;> fail)) | (refine CallRG_tt ?_; refine CallR_of (mayR_ok _ _ _ hr.2.2.2.2) ?_) | (refine CallRG_tt ?_; refine CallR_of (high4_ok _ _) ?_) | (refine CallRG_tt ?_; refine CallR_of (CallOK.le (mayR_ok _ _ _ hr.2.2.2.2) ?_) ?_; focus (simp [argsLe, aLe, csLe, cLe] <;> fail)) | (refine CallRG_tt ?_; refine CallR_of (CallOK.le (high4_ok _ _) ?_) ?_; focus (simp [argsLe, aLe, csLe, cLe] <;> fail)) | refine CallRG_no ?_ | refine CondR_of (fun hb => ?_) (fun hb => ?_) | (refine And.intro ?_ ?_; focus ((try with_reducible refine GIm_of ?_); first | (with_reducible rfl) | (with_reducible refine rng_of ?_; rfl) | (with_reducible refine ordOK_of ?_; kernel_rfl) | (with_reducible refine chk_of ?_; kernel_rfl) | (intros; omega) | (intro q1 q2; rw [q1, q2]; rfl) | (intro q1; rw [q1]; rfl) | (intro q; simp only [Bool.and_eq_true, decide_eq_true_eq, beq_iff_eq] at q; omega) | (intros; simp_all; done) | (intros; simp [List.range, List.range.loop]; done) | (intros; simp_all [List.range, List.range.loop]; done))) | refine And.intro (fun hg => ?_) (fun hg => ?_) | (with_reducible refine chk_of ?_; kernel_rfl) | fail)
  simp [Req.may, Bool.and_assoc]
/-- Requests that may be, of unlike clients. -/
def reqsMay (l : List Req) : Nat → List Req → Bool
  | _, [] => true
  | i, r :: rest => if (!Req.may r || (l.take i).any (fun o => o.client == r.client)) = true then false else reqsMay l (i + 1) rest
def Batch.may (b : Batch) : Bool :=
  if b.fill = true then b.view == 0 && b.time == 0 && (b.tip.view == 0 && b.tip.slot == 0) && (b.reqs.length : Int) == 0
  else if (!![b.view, b.time, b.tip.view, b.tip.slot].any bad || decide ((b.reqs.length : Int) > 3)) = true then false else reqsMay b.reqs 0 b.reqs
theorem batchMay_ok (b : Batch) (hok : b.ok) : CallOK Try.prog 11 [.f (.agg b.lent)] (fun r o => r = [rb (Batch.may b)] ∧ o = []) := by
  have hlen : b.reqs.length < 2 ^ 42 := hok.2.2.2.2.1
  have hreq : ∀ r ∈ b.reqs, r.ok := hok.2.2.2.2.2
  refine callOK_of TOKTy mixed (T := Ty) (n := 66) Try.func11 (c := Try.f11.body.getD .skip) rfl Try.results11 Try.ntmps11 Try.call11 ?_
  simp only [Try.f11, Option.getD]
  repeat' (first | with_reducible refine SeqQ_normal _ _ ?_ | rw [awp_seq] | simp only [pkS, TyB, Nat.reduceSub,  if_true, if_false, implies_true, Nat.reduceEqDiff, Nat.reduceAdd, Nat.reduceMul, Nat.reduceLeDiff, Nat.reduceLT, Nat.reduceBEq, beq_self_eq_true, reduceCtorEq, imp_self, ne_eq, not_false_eq_true, beq_iff_eq, forall_const, true_implies] | refine CallR_of (within_ok [_, _, _, _] (by simp)) ?_ | (refine CallR_of (CallOK.le (within_ok [_, _, _, _] (by simp)) ?_) ?_; focus (simp [argsLe, aLe, csLe, cLe] <;> fail)) | refine CallRG_of (fun hg => within_ok [_, _, _, _] (by simp)) rfl ?_ | (refine CallRG_of (fun hg => CallOK.le (within_ok [_, _, _, _] (by simp)) ?_) rfl ?_; focus (simp [argsLe, aLe, csLe, cLe] <;> fail)) | (refine CallRG_tt ?_; refine CallR_of (within_ok [_, _, _, _] (by simp)) ?_) | (refine CallRG_tt ?_; refine CallR_of (CallOK.le (within_ok [_, _, _, _] (by simp)) ?_) ?_; focus (simp [argsLe, aLe, csLe, cLe] <;> fail)) | refine CallRG_no ?_ | refine CondR_of (fun hb => ?_) (fun hb => ?_) | (refine And.intro ?_ ?_; focus ((try with_reducible refine GIm_of ?_); first | (with_reducible rfl) | (with_reducible refine rng_of ?_; rfl) | (with_reducible refine ordOK_of ?_; kernel_rfl) | (with_reducible refine chk_of ?_; kernel_rfl) | (intros; omega) | (intro q1 q2; rw [q1, q2]; rfl) | (intro q1; rw [q1]; rfl) | (intro q; simp only [Bool.and_eq_true, decide_eq_true_eq, beq_iff_eq] at q; omega) | (intros; simp_all; done) | (intros; simp [List.range, List.range.loop]; done) | (intros; simp_all [List.range, List.range.loop]; done))) | refine And.intro (fun hg => ?_) (fun hg => ?_) | (with_reducible refine chk_of ?_; kernel_rfl) | fail)
  · rw [Batch.may, if_pos (by assumption)]
  · rw [Batch.may, if_neg (by simp_all), if_pos (by assumption)]
  rename_i hf
  have hm : Batch.may b = reqsMay b.reqs 0 b.reqs := by rw [Batch.may, if_neg (by simp [hf]), if_neg (by rw [hb]; simp)]
  rw [hm]
  repeat (first | with_reducible refine SeqQ_normal _ _ ?_ | with_reducible refine And.imp_right (SeqQ_normal _ _) ?_ | with_reducible refine And.imp_right (And.imp_right (SeqQ_normal _ _)) ?_ | with_reducible refine And.imp_right (And.imp_right (And.imp_right (SeqQ_normal _ _))) ?_ | rw [awp_seq] | simp only [pkS, TyB, Nat.reduceSub,  if_true, if_false, implies_true, Nat.reduceEqDiff, Nat.reduceAdd, Nat.reduceMul, Nat.reduceLeDiff, Nat.reduceLT, Nat.reduceBEq, beq_self_eq_true, reduceCtorEq, imp_self, ne_eq, not_false_eq_true, beq_iff_eq, forall_const, true_implies])
  refine LoopR_fn (τ := Nat × Nat) (fun t => ⟨[dd, .one (.ptr ⟨1, 0, 0⟩ 0), ab false, dd, dd, dd, dd, dd, dd, dd, dd, dd, dd, dd, dd, dd, dd, dd, dd, dd, dd, dd, dd, dd, dd, dd, dd, dd, dd, dd, dd, dd, dd, dd, dd, dd, dd, dd, dd, dd, dd, dd, dd, dd, dd, dd, dd, al b.reqs.length (reqsE b.reqs), ai b.reqs.length, ai t.1, dd, dd, dd, dd, dd, dd, dd, dd, dd, dd, dd, dd, dd, dd, dd, dd],
    [(1, { next := 7, l := [some { e := 0, var := true, fz := false, sz := 0, cells := [db b.fill, di b.view, di b.tip.view, di b.tip.slot, di b.time, .lent b.reqs.length (reqsE b.reqs)] }, none, none, none, none, none, none] }), (37, ⟨1, []⟩), (4, ⟨t.2, []⟩)]⟩)
    (fun t => t.1 ≤ b.reqs.length) (fun t => reqsMay b.reqs t.1 (b.reqs.drop t.1)) (fun t => b.reqs.length - t.1) (0, 0) (Gh.keep [1] [4] ?_ rfl) (Nat.zero_le _) ?_
  · simp only [fgt_dead, fgt_same, fgt_nil, Int.natCast_zero]
  intro ⟨i, e⟩ hi0 hF K hK
  simp only at hi0 hF hK ⊢
  repeat (first | with_reducible refine SeqQ_normal _ _ ?_ | with_reducible refine And.imp_right (SeqQ_normal _ _) ?_ | with_reducible refine And.imp_right (And.imp_right (SeqQ_normal _ _)) ?_ | with_reducible refine And.imp_right (And.imp_right (And.imp_right (SeqQ_normal _ _))) ?_ | rw [awp_seq] | simp only [pkS, TyB, Nat.reduceSub,  if_true, if_false, implies_true, Nat.reduceEqDiff, Nat.reduceAdd, Nat.reduceMul, Nat.reduceLeDiff, Nat.reduceLT, Nat.reduceBEq, beq_self_eq_true, reduceCtorEq, imp_self, ne_eq, not_false_eq_true, beq_iff_eq, forall_const, true_implies])
  rw [CondR_bool]
  refine ⟨trivial, fun hlt => ?_, fun hge => ?_⟩
  · have hi : i < b.reqs.length := by simpa using hlt
    rw [List.drop_eq_getElem_cons hi, reqsMay] at hF
    have hat := reqs_at hi
    simp only [List.cons_append, List.nil_append] at hat
    have hro := hreq _ (List.getElem_mem hi)
    have hlt' : (b.reqs.take i).length = i := by rw [List.length_take]; omega
    have hc := contains_req (b.reqs.take i) (by omega) (fun o => o.client == b.reqs[i].client) 34 [.elt b.reqs[i].enc] rfl rfl (fun x _ => sameClient_ok x _)
    rw [hlt', ← take_reqs hi0] at hc
    repeat' (first | with_reducible refine SeqQ_normal _ _ ?_ | rw [awp_seq] | simp only [pkS, TyB, Nat.reduceSub, reqs_len, hat, Int.toNat_zero, Int.toNat_natCast, Nat.sub_zero, Int.natCast_zero, if_true, if_false, implies_true, Nat.reduceEqDiff, Nat.reduceAdd, Nat.reduceMul, Nat.reduceLeDiff, Nat.reduceLT, Nat.reduceBEq, beq_self_eq_true, reduceCtorEq, imp_self, ne_eq, not_false_eq_true, beq_iff_eq, forall_const, true_implies] | refine CallR_of (mayReq_ok _ hro) ?_ | refine CallR_of (hc) ?_ | (refine CallR_of (CallOK.le (mayReq_ok _ hro) ?_) ?_; focus (simp [argsLe, aLe, csLe, cLe] <;> fail)) | (refine CallR_of (CallOK.le (hc) ?_) ?_; focus (simp [argsLe, aLe, csLe, cLe] <;> fail)) | refine CallRG_of (fun hg => mayReq_ok _ hro) rfl ?_ | refine CallRG_of (fun hg => hc) rfl ?_ | (refine CallRG_of (fun hg => CallOK.le (mayReq_ok _ hro) ?_) rfl ?_; focus (simp [argsLe, aLe, csLe, cLe] <;> fail)) | (refine CallRG_of (fun hg => CallOK.le (hc) ?_) rfl ?_; focus (simp [argsLe, aLe, csLe, cLe] <;> fail)) | (refine CallRG_tt ?_; refine CallR_of (mayReq_ok _ hro) ?_) | (refine CallRG_tt ?_; refine CallR_of (hc) ?_) | (refine CallRG_tt ?_; refine CallR_of (CallOK.le (mayReq_ok _ hro) ?_) ?_; focus (simp [argsLe, aLe, csLe, cLe] <;> fail)) | (refine CallRG_tt ?_; refine CallR_of (CallOK.le (hc) ?_) ?_; focus (simp [argsLe, aLe, csLe, cLe] <;> fail)) | refine CallRG_no ?_ | refine CondR_of (fun hb => ?_) (fun hb => ?_) | (refine And.intro ?_ ?_; focus ((try with_reducible refine GIm_of ?_); first | (with_reducible rfl) | (with_reducible refine rng_of ?_; rfl) | (with_reducible refine ordOK_of ?_; kernel_rfl) | (with_reducible refine chk_of ?_; kernel_rfl) | (intros; omega) | (intro q1 q2; rw [q1, q2]; rfl) | (intro q1; rw [q1]; rfl) | (intro q; simp only [Bool.and_eq_true, decide_eq_true_eq, beq_iff_eq] at q; omega) | (intros; simp_all; done) | (intros; simp [List.range, List.range.loop]; done) | (intros; simp_all [List.range, List.range.loop]; done))) | refine And.intro (fun hg => ?_) (fun hg => ?_) | (with_reducible refine chk_of ?_; kernel_rfl) | fail)
    · rw [if_pos hb, List.drop_zero] at hF
      rw [← hF]
    · rw [if_neg (by rw [hb]; simp)] at hF
      refine hK _ (i + 1, _) (Gh.keep [1] [] ?_ rfl) hi (by simp only [List.drop_eq_getElem_cons hi, reqsMay]; rw [if_neg (by rw [hb]; simp)]) (by simp only; omega)
      simp only [i64_succ hi (by omega), fgt_dead, fgt_same, fgt_nil]
  · have hi : i = b.reqs.length := by
      have : ¬ (i : Int) < b.reqs.length := by simpa using hge
      omega
    rw [hi, List.drop_length, List.drop_zero, reqsMay] at hF
    repeat (first | with_reducible refine SeqQ_normal _ _ ?_ | with_reducible refine And.imp_right (SeqQ_normal _ _) ?_ | with_reducible refine And.imp_right (And.imp_right (SeqQ_normal _ _)) ?_ | with_reducible refine And.imp_right (And.imp_right (And.imp_right (SeqQ_normal _ _))) ?_ | rw [awp_seq] | simp only [pkS, TyB, Nat.reduceSub,  if_true, if_false, implies_true, Nat.reduceEqDiff, Nat.reduceAdd, Nat.reduceMul, Nat.reduceLeDiff, Nat.reduceLT, Nat.reduceBEq, beq_self_eq_true, reduceCtorEq, imp_self, ne_eq, not_false_eq_true, beq_iff_eq, forall_const, true_implies])
    rw [← hF]
theorem reqs_ok (l : List Req) (hl : l.length < 2 ^ 42) (hreq : ∀ r ∈ l, r.ok) : CallOK Try.prog 79 [.f (al l.length (reqsE l))] (fun r o => r = [rb (if decide ((l.length : Int) > 3) = true then false else reqsMay l 0 l)] ∧ o = []) := by
  refine callOK_of TOKTy mixed (T := Ty) (n := 36) Try.func79 (c := Try.f79.body.getD .skip) rfl Try.results79 Try.ntmps79 Try.call79 ?_
  simp only [Try.f79, Option.getD]
  repeat (first | with_reducible refine SeqQ_normal _ _ ?_ | with_reducible refine And.imp_right (SeqQ_normal _ _) ?_ | with_reducible refine And.imp_right (And.imp_right (SeqQ_normal _ _)) ?_ | with_reducible refine And.imp_right (And.imp_right (And.imp_right (SeqQ_normal _ _))) ?_ | rw [awp_seq] | simp only [pkS, TyB, Nat.reduceSub,  if_true, if_false, implies_true, Nat.reduceEqDiff, Nat.reduceAdd, Nat.reduceMul, Nat.reduceLeDiff, Nat.reduceLT, Nat.reduceBEq, beq_self_eq_true, reduceCtorEq, imp_self, ne_eq, not_false_eq_true, beq_iff_eq, forall_const, true_implies])
  refine CondR_of (fun hb => ?_) (fun hb => ?_)
  · repeat (first | with_reducible refine SeqQ_normal _ _ ?_ | with_reducible refine And.imp_right (SeqQ_normal _ _) ?_ | with_reducible refine And.imp_right (And.imp_right (SeqQ_normal _ _)) ?_ | with_reducible refine And.imp_right (And.imp_right (And.imp_right (SeqQ_normal _ _))) ?_ | rw [awp_seq] | simp only [pkS, TyB, Nat.reduceSub,  if_true, if_false, implies_true, Nat.reduceEqDiff, Nat.reduceAdd, Nat.reduceMul, Nat.reduceLeDiff, Nat.reduceLT, Nat.reduceBEq, beq_self_eq_true, reduceCtorEq, imp_self, ne_eq, not_false_eq_true, beq_iff_eq, forall_const, true_implies])
    rw [if_pos hb]
  rw [if_neg (by rw [hb]; simp)]
  repeat (first | with_reducible refine SeqQ_normal _ _ ?_ | with_reducible refine And.imp_right (SeqQ_normal _ _) ?_ | with_reducible refine And.imp_right (And.imp_right (SeqQ_normal _ _)) ?_ | with_reducible refine And.imp_right (And.imp_right (And.imp_right (SeqQ_normal _ _))) ?_ | rw [awp_seq] | simp only [pkS, TyB, Nat.reduceSub,  if_true, if_false, implies_true, Nat.reduceEqDiff, Nat.reduceAdd, Nat.reduceMul, Nat.reduceLeDiff, Nat.reduceLT, Nat.reduceBEq, beq_self_eq_true, reduceCtorEq, imp_self, ne_eq, not_false_eq_true, beq_iff_eq, forall_const, true_implies])
  refine LoopR_fn (τ := Nat) (fun i => ⟨[al l.length (reqsE l), dd, ab false, ai i, dd, dd, dd, dd, dd, dd, dd, dd, dd, dd, dd, dd, dd, dd, dd, dd, dd, dd, dd, dd, dd, dd, dd, dd, dd, dd, dd, dd, dd, dd, dd, dd], []⟩)
    (fun i => i ≤ l.length) (fun i => reqsMay l i (l.drop i)) (fun i => l.length - i) 0 (Gh.fgt ?_) (Nat.zero_le _) ?_
  · simp only [fgt_dead, fgt_same, fgt_nil, Int.natCast_zero]
  intro i hi0 hF K hK
  repeat (first | with_reducible refine SeqQ_normal _ _ ?_ | with_reducible refine And.imp_right (SeqQ_normal _ _) ?_ | with_reducible refine And.imp_right (And.imp_right (SeqQ_normal _ _)) ?_ | with_reducible refine And.imp_right (And.imp_right (And.imp_right (SeqQ_normal _ _))) ?_ | rw [awp_seq] | simp only [pkS, TyB, Nat.reduceSub,  if_true, if_false, implies_true, Nat.reduceEqDiff, Nat.reduceAdd, Nat.reduceMul, Nat.reduceLeDiff, Nat.reduceLT, Nat.reduceBEq, beq_self_eq_true, reduceCtorEq, imp_self, ne_eq, not_false_eq_true, beq_iff_eq, forall_const, true_implies])
  refine CondR_of (fun hlt => ?_) (fun hge => ?_)
  · have hi : i < l.length := by simpa using hlt
    rw [List.drop_eq_getElem_cons hi, reqsMay] at hF
    have hat := reqs_at hi
    simp only [List.cons_append, List.nil_append] at hat
    have hro := hreq _ (List.getElem_mem hi)
    repeat' (first | with_reducible refine SeqQ_normal _ _ ?_ | rw [awp_seq] | simp only [pkS, TyB, Nat.reduceSub, reqs_len, hat, if_true, if_false, implies_true, Nat.reduceEqDiff, Nat.reduceAdd, Nat.reduceMul, Nat.reduceLeDiff, Nat.reduceLT, Nat.reduceBEq, beq_self_eq_true, reduceCtorEq, imp_self, ne_eq, not_false_eq_true, beq_iff_eq, forall_const, true_implies] | refine CallR_of (mayReqR_ok _ hro) ?_ | (refine CallR_of (CallOK.le (mayReqR_ok _ hro) ?_) ?_; focus (simp [argsLe, aLe, csLe, cLe] <;> fail)) | refine CallRG_of (fun hg => mayReqR_ok _ hro) rfl ?_ | (refine CallRG_of (fun hg => CallOK.le (mayReqR_ok _ hro) ?_) rfl ?_; focus (simp [argsLe, aLe, csLe, cLe] <;> fail)) | (refine CallRG_tt ?_; refine CallR_of (mayReqR_ok _ hro) ?_) | (refine CallRG_tt ?_; refine CallR_of (CallOK.le (mayReqR_ok _ hro) ?_) ?_; focus (simp [argsLe, aLe, csLe, cLe] <;> fail)) | refine CallRG_no ?_ | refine CondR_of (fun hb => ?_) (fun hb => ?_) | (refine And.intro ?_ ?_; focus ((try with_reducible refine GIm_of ?_); first | (with_reducible rfl) | (with_reducible refine rng_of ?_; rfl) | (with_reducible refine ordOK_of ?_; kernel_rfl) | (with_reducible refine chk_of ?_; kernel_rfl) | (intros; omega) | (intro q1 q2; rw [q1, q2]; rfl) | (intro q1; rw [q1]; rfl) | (intro q; simp only [Bool.and_eq_true, decide_eq_true_eq, beq_iff_eq] at q; omega) | (intros; simp_all; done) | (intros; simp [List.range, List.range.loop]; done) | (intros; simp_all [List.range, List.range.loop]; done))) | refine And.intro (fun hg => ?_) (fun hg => ?_) | (with_reducible refine chk_of ?_; kernel_rfl) | fail)
    · rw [if_pos (by rw [hb]; rfl), List.drop_zero] at hF
      rw [← hF]
    rename_i hm
    have hm : Req.may l[i] = true := by simpa using hb
    repeat (first | with_reducible refine SeqQ_normal _ _ ?_ | with_reducible refine And.imp_right (SeqQ_normal _ _) ?_ | with_reducible refine And.imp_right (And.imp_right (SeqQ_normal _ _)) ?_ | with_reducible refine And.imp_right (And.imp_right (And.imp_right (SeqQ_normal _ _))) ?_ | rw [awp_seq] | simp only [pkS, TyB, Nat.reduceSub,  if_true, if_false, implies_true, Nat.reduceEqDiff, Nat.reduceAdd, Nat.reduceMul, Nat.reduceLeDiff, Nat.reduceLT, Nat.reduceBEq, beq_self_eq_true, reduceCtorEq, imp_self, ne_eq, not_false_eq_true, beq_iff_eq, forall_const, true_implies])
    refine LoopR_fn (τ := Nat) (fun k => ⟨[al l.length (reqsE l), dd, ab false, ai i, ai k, dd, dd, dd, dd, dd, dd, dd, dd, dd, dd, dd, dd, dd, dd, dd, dd, dd, dd, dd, dd, dd, dd, dd, dd, dd, dd, dd, dd, dd, dd, dd], []⟩)
      (fun k => k ≤ i) (fun k => ((l.take i).drop k).any (fun o => o.client == l[i].client)) (fun k => i - k) 0 (Gh.fgt ?_) (Nat.zero_le _) ?_
    · simp only [fgt_dead, fgt_same, fgt_nil, Int.natCast_zero]
    intro k hk0 hF2 K2 hK2
    repeat (first | with_reducible refine SeqQ_normal _ _ ?_ | with_reducible refine And.imp_right (SeqQ_normal _ _) ?_ | with_reducible refine And.imp_right (And.imp_right (SeqQ_normal _ _)) ?_ | with_reducible refine And.imp_right (And.imp_right (And.imp_right (SeqQ_normal _ _))) ?_ | rw [awp_seq] | simp only [pkS, TyB, Nat.reduceSub,  if_true, if_false, implies_true, Nat.reduceEqDiff, Nat.reduceAdd, Nat.reduceMul, Nat.reduceLeDiff, Nat.reduceLT, Nat.reduceBEq, beq_self_eq_true, reduceCtorEq, imp_self, ne_eq, not_false_eq_true, beq_iff_eq, forall_const, true_implies])
    refine CondR_of (fun hlt2 => ?_) (fun hge2 => ?_)
    · have hk : k < i := by simpa using hlt2
      have hkl : k < l.length := by omega
      have hat2 := reqs_at hkl
      simp only [List.cons_append, List.nil_append] at hat2
      have hd : (l.take i).drop k = l[k] :: (l.take i).drop (k + 1) := by
        rw [List.drop_eq_getElem_cons (by rw [List.length_take]; omega)]
        congr 1
        rw [List.getElem_take]
      rw [hd, List.any_cons, List.drop_zero] at hF2
      repeat' (first | with_reducible refine SeqQ_normal _ _ ?_ | rw [awp_seq] | simp only [pkS, TyB, Nat.reduceSub, reqs_len, hat, hat2, if_true, if_false, implies_true, Nat.reduceEqDiff, Nat.reduceAdd, Nat.reduceMul, Nat.reduceLeDiff, Nat.reduceLT, Nat.reduceBEq, beq_self_eq_true, reduceCtorEq, imp_self, ne_eq, not_false_eq_true, beq_iff_eq, forall_const, true_implies] | refine CallRG_no ?_ | refine CondR_of (fun hb => ?_) (fun hb => ?_) | (refine And.intro ?_ ?_; focus ((try with_reducible refine GIm_of ?_); first | (with_reducible rfl) | (with_reducible refine rng_of ?_; rfl) | (with_reducible refine ordOK_of ?_; kernel_rfl) | (with_reducible refine chk_of ?_; kernel_rfl) | (intros; omega) | (intro q1 q2; rw [q1, q2]; rfl) | (intro q1; rw [q1]; rfl) | (intro q; simp only [Bool.and_eq_true, decide_eq_true_eq, beq_iff_eq] at q; omega) | (intros; simp_all; done) | (intros; simp [List.range, List.range.loop]; done) | (intros; simp_all [List.range, List.range.loop]; done))) | refine And.intro (fun hg => ?_) (fun hg => ?_) | (with_reducible refine chk_of ?_; kernel_rfl) | fail)
      · rw [hb, Bool.true_or] at hF2
        rw [if_pos (by rw [← hF2, Bool.or_true]), List.drop_zero] at hF
        rw [← hF]
      · rw [hb, Bool.false_or] at hF2
        refine hK2 _ (k + 1) (Gh.fgt ?_) hk (by rw [hd, List.any_cons, hb, Bool.false_or]) (by omega)
        simp only [i64_succ hk (by omega), fgt_dead, fgt_same, fgt_nil]
    · have hk : k = i := by
        have : ¬ (k : Int) < i := by simpa using hge2
        omega
      rw [hk, List.drop_of_length_le (by rw [List.length_take]; omega), List.any_nil, List.drop_zero] at hF2
      rw [if_neg (by rw [← hF2, hm]; simp)] at hF
      repeat (first | with_reducible refine SeqQ_normal _ _ ?_ | with_reducible refine And.imp_right (SeqQ_normal _ _) ?_ | with_reducible refine And.imp_right (And.imp_right (SeqQ_normal _ _)) ?_ | with_reducible refine And.imp_right (And.imp_right (And.imp_right (SeqQ_normal _ _))) ?_ | rw [awp_seq] | simp only [pkS, TyB, Nat.reduceSub,  if_true, if_false, implies_true, Nat.reduceEqDiff, Nat.reduceAdd, Nat.reduceMul, Nat.reduceLeDiff, Nat.reduceLT, Nat.reduceBEq, beq_self_eq_true, reduceCtorEq, imp_self, ne_eq, not_false_eq_true, beq_iff_eq, forall_const, true_implies])
      refine hK _ (i + 1) (Gh.fgt ?_) hi (by simp only [List.drop_eq_getElem_cons hi, reqsMay]; rw [if_neg (by rw [← hF2, hm]; simp)]) (by omega)
      simp only [i64_succ hi (by omega), fgt_dead, fgt_same, fgt_nil]
  · have hi : i = l.length := by
      have : ¬ (i : Int) < l.length := by simpa using hge
      omega
    rw [hi, List.drop_length, List.drop_zero, reqsMay] at hF
    repeat (first | with_reducible refine SeqQ_normal _ _ ?_ | with_reducible refine And.imp_right (SeqQ_normal _ _) ?_ | with_reducible refine And.imp_right (And.imp_right (SeqQ_normal _ _)) ?_ | with_reducible refine And.imp_right (And.imp_right (And.imp_right (SeqQ_normal _ _))) ?_ | rw [awp_seq] | simp only [pkS, TyB, Nat.reduceSub,  if_true, if_false, implies_true, Nat.reduceEqDiff, Nat.reduceAdd, Nat.reduceMul, Nat.reduceLeDiff, Nat.reduceLT, Nat.reduceBEq, beq_self_eq_true, reduceCtorEq, imp_self, ne_eq, not_false_eq_true, beq_iff_eq, forall_const, true_implies])
    rw [← hF]
theorem batchMayR_ok (b : Batch) (hok : b.ok) : CallOK Try.prog 68 [.f (.agg b.lent)] (fun r o => r = [rb (Batch.may b)] ∧ o = []) := by
  refine callOK_of TOKTy mixed (T := Ty) (n := 43) Try.func68 (c := Try.f68.body.getD .skip) rfl Try.results68 Try.ntmps68 Try.call68 ?_
  simp only [Try.f68, Option.getD]
  repeat' (first | with_reducible refine SeqQ_normal _ _ ?_ | rw [awp_seq] | simp only [pkS, TyB, Nat.reduceSub,  if_true, if_false, implies_true, Nat.reduceEqDiff, Nat.reduceAdd, Nat.reduceMul, Nat.reduceLeDiff, Nat.reduceLT, Nat.reduceBEq, beq_self_eq_true, reduceCtorEq, imp_self, ne_eq, not_false_eq_true, beq_iff_eq, forall_const, true_implies] | refine CallR_of (high_ok _ _) ?_ | refine CallR_of (mayTip_ok b.tip) ?_ | refine CallR_of (reqs_ok b.reqs hok.2.2.2.2.1 hok.2.2.2.2.2) ?_ | (refine CallR_of (CallOK.le (high_ok _ _) ?_) ?_; focus (simp [argsLe, aLe, csLe, cLe] <;> fail)) | (refine CallR_of (CallOK.le (mayTip_ok b.tip) ?_) ?_; focus (simp [argsLe, aLe, csLe, cLe] <;> fail)) | (refine CallR_of (CallOK.le (reqs_ok b.reqs hok.2.2.2.2.1 hok.2.2.2.2.2) ?_) ?_; focus (simp [argsLe, aLe, csLe, cLe] <;> fail)) | refine CallRG_of (fun hg => high_ok _ _) rfl ?_ | refine CallRG_of (fun hg => mayTip_ok b.tip) rfl ?_ | refine CallRG_of (fun hg => reqs_ok b.reqs hok.2.2.2.2.1 hok.2.2.2.2.2) rfl ?_ | (refine CallRG_of (fun hg => CallOK.le (high_ok _ _) ?_) rfl ?_; focus (simp [argsLe, aLe, csLe, cLe] <;> fail)) | (refine CallRG_of (fun hg => CallOK.le (mayTip_ok b.tip) ?_) rfl ?_; focus (simp [argsLe, aLe, csLe, cLe] <;> fail)) | (refine CallRG_of (fun hg => CallOK.le (reqs_ok b.reqs hok.2.2.2.2.1 hok.2.2.2.2.2) ?_) rfl ?_; focus (simp [argsLe, aLe, csLe, cLe] <;> fail)) | (refine CallRG_tt ?_; refine CallR_of (high_ok _ _) ?_) | (refine CallRG_tt ?_; refine CallR_of (mayTip_ok b.tip) ?_) | (refine CallRG_tt ?_; refine CallR_of (reqs_ok b.reqs hok.2.2.2.2.1 hok.2.2.2.2.2) ?_) | (refine CallRG_tt ?_; refine CallR_of (CallOK.le (high_ok _ _) ?_) ?_; focus (simp [argsLe, aLe, csLe, cLe] <;> fail)) | (refine CallRG_tt ?_; refine CallR_of (CallOK.le (mayTip_ok b.tip) ?_) ?_; focus (simp [argsLe, aLe, csLe, cLe] <;> fail)) | (refine CallRG_tt ?_; refine CallR_of (CallOK.le (reqs_ok b.reqs hok.2.2.2.2.1 hok.2.2.2.2.2) ?_) ?_; focus (simp [argsLe, aLe, csLe, cLe] <;> fail)) | refine CallRG_no ?_ | refine CondR_of (fun hb => ?_) (fun hb => ?_) | (refine And.intro ?_ ?_; focus ((try with_reducible refine GIm_of ?_); first | (with_reducible rfl) | (with_reducible refine rng_of ?_; rfl) | (with_reducible refine ordOK_of ?_; kernel_rfl) | (with_reducible refine chk_of ?_; kernel_rfl) | (intros; omega) | (intro q1 q2; rw [q1, q2]; rfl) | (intro q1; rw [q1]; rfl) | (intro q; simp only [Bool.and_eq_true, decide_eq_true_eq, beq_iff_eq] at q; omega) | (intros; simp_all; done) | (intros; simp [List.range, List.range.loop]; done) | (intros; simp_all [List.range, List.range.loop]; done))) | refine And.intro (fun hg => ?_) (fun hg => ?_) | (with_reducible refine chk_of ?_; kernel_rfl) | fail)
  · rw [Batch.may, if_pos (by assumption)]
    refine congrArg (fun b => [rb b]) ?_
    ac_rfl
  · refine congrArg (fun b => [rb b]) ?_
    have e : (![b.view, b.time, b.tip.view, b.tip.slot].any bad) = (inH b.view && inH b.time && Tip.may b.tip) := by
      simp [Tip.may, ← bad_inH, Bool.and_assoc]
    rw [Batch.may, if_neg (show ¬ b.fill = true by rw [hb]; simp), e]
    show (inH b.view && inH b.time && Tip.may b.tip && _) = _
    generalize (inH b.view && inH b.time && Tip.may b.tip) = q
    generalize decide ((b.reqs.length : Int) > 3) = d
    cases q <;> cases d <;> rfl
end Go.Proofs.Ytgiempmfpmlgnaa

