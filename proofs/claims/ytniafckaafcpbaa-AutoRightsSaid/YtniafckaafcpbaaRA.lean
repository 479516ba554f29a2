/- AutoRights: the statement's own function. -/
import Derived.Test.YtniafckaafcpbaaY
namespace Go.Proofs.Ytniafckaafcpbaa
open Go.Pk
set_option maxRecDepth 100000
set_option linter.unusedSimpArgs false
set_option linter.unusedVariables false
theorem named_size (n : Int) : (namedP n).size ≤ 12 := by
  unfold namedP
  rcases six n with h | h | h | h | h | h <;> rw [h] <;> decide
theorem reqA_ok {s : St} (hr : RightS s) {a : Act} (ha : actOk a) : (reqA s a).ok := by
  obtain ⟨_, h1, h2, h3, h4, h5⟩ := ha
  unfold byteI at *
  have hH : High = 2305843009213693952 := rfl
  have hsq : ∀ c, 0 ≤ ((findM s.memos c).getD noMemo).seq ∧ ((findM s.memos c).getD noMemo).seq ≤ High := fun c => by
    cases hf : findM s.memos c with
    | none => decide
    | some m =>
      have := (answer_client (hr.mok m (List.mem_of_find?_eq_some hf))).2.1
      simp only [Option.getD_some]; omega
  have hnm : ∀ c, 0 ≤ ((findS s.sess c).getD noSess).num ∧ ((findS s.sess c).getD noSess).num ≤ High := fun c => by
    cases hf : findS s.sess c with
    | none => decide
    | some m =>
      have := (okSess_iff.1 (hr.sok m (List.mem_of_find?_eq_some hf)).1).2.1
      simp only [Option.getD_some]; omega
  have hk : 1 ≤ kindP a.kind ∧ kindP a.kind ≤ 6 := by unfold kindP; omega
  have hs : 0 ≤ sessP a.kind a.session ∧ sessP a.kind a.session ≤ 7 := by unfold sessP; split <;> omega
  have hn : (cmdNm a.kind a.name).size ≤ 12 := by
    unfold cmdNm
    split
    · exact named_size _
    · decide
  unfold reqA Req.ok i64 reqN
  simp only
  have := hsq (a.client % 8)
  have := hnm (a.client % 8)
  refine ⟨by omega, ?_, ?_, ?_, ?_⟩
  · split
    · split <;> omega
    · omega
  · split <;> omega
  · split
    · omega
    · split <;> omega
  · split
    · decide
    · omega
set_option maxHeartbeats 4000000 in
theorem autoRights_of (acts : List Act) (hl : acts.length < 2 ^ 60) (ha : ∀ a ∈ acts, actOk a) (lease : Int) (hle : byteI lease) :
    CallOK Try.prog 3 [.f (al acts.length (actsE acts)), .f (au lease)] (fun r o => r = [rb true] ∧ o = []) := by
  refine callOK_of TOKTy mixed (T := Ty) (n := 109) Try.func3 (c := Try.f3.body.getD .skip) rfl Try.results3 Try.ntmps3 Try.call3 ?_
  simp only [Try.f3, Option.getD]
  have haw := awake_ok
  have hwl := byte_wrap hle
  repeat' (first | (with_reducible first | refine SeqQ_normal _ _ ?_ | refine CondR_tt ?_ | refine CondR_ff ?_) | rw [awp_seq] | simp only [pkS, TyB, pkY, Int.reduceEq, bne_self_eq_false, Int.reduceBEq, Int.reduceBNe, implies_true, forall_const, Nat.reduceSub, Nat.reduceEqDiff, Nat.reduceAdd, Nat.reduceMul, Nat.reduceLeDiff, Nat.reduceLT, Nat.reduceBEq, reduceCtorEq] | refine CallRG_no ?_ | refine CondR_of (fun hb => ?_) (fun hb => ?_) | (refine And.intro ?_ ?_; focus ((try with_reducible refine GIm_of ?_); first | (with_reducible rfl) | ((with_reducible first | refine rng_of ?_ | refine ordOK_of ?_ | refine chk_of ?_); kernel_rfl) | (intros; omega) | (intro q p; rw [q, p]; rfl) | (intro q; rw [q]; rfl) | (intro q; simp only [Bool.and_eq_true, decide_eq_true_eq, beq_iff_eq] at q; omega) | (intros; simp_all; done) | (intros; simp [List.range, List.range.loop]; done) | (intros; simp_all [List.range, List.range.loop]; done))) | refine And.intro (fun hg => ?_) (fun hg => ?_) | (with_reducible refine chk_of ?_; kernel_rfl) | fail)
  refine LoopR_gh (Gh.sealF 5 3 (.d (.v (.slice none 0 0))) ?_) ?_
  · simp only [pkS, TyB, sealFOK, pkY, implies_true, forall_const, Nat.reduceSub, Nat.reduceEqDiff, Nat.reduceAdd, Nat.reduceMul, Nat.reduceLeDiff, Nat.reduceLT, Nat.reduceBEq, reduceCtorEq]
  simp only [pkS, TyB, sealFR, pkY, implies_true, forall_const, Nat.reduceSub, Nat.reduceEqDiff, Nat.reduceAdd, Nat.reduceMul, Nat.reduceLeDiff, Nat.reduceLT, Nat.reduceBEq, reduceCtorEq]
  refine LoopR_gh (Gh.sealF 5 4 (.d (.v (.slice none 0 0))) ?_) ?_
  · simp only [pkS, TyB, sealFOK, pkY, implies_true, forall_const, Nat.reduceSub, Nat.reduceEqDiff, Nat.reduceAdd, Nat.reduceMul, Nat.reduceLeDiff, Nat.reduceLT, Nat.reduceBEq, reduceCtorEq]
  simp only [pkS, TyB, sealFR, pkY, implies_true, forall_const, Nat.reduceSub, Nat.reduceEqDiff, Nat.reduceAdd, Nat.reduceMul, Nat.reduceLeDiff, Nat.reduceLT, Nat.reduceBEq, reduceCtorEq]
  refine LoopR_gh (Gh.sealF 5 5 (.d (.v (.slice none 0 0))) ?_) ?_
  · simp only [pkS, TyB, sealFOK, pkY, implies_true, forall_const, Nat.reduceSub, Nat.reduceEqDiff, Nat.reduceAdd, Nat.reduceMul, Nat.reduceLeDiff, Nat.reduceLT, Nat.reduceBEq, reduceCtorEq]
  simp only [pkS, TyB, sealFR, pkY, implies_true, forall_const, Nat.reduceSub, Nat.reduceEqDiff, Nat.reduceAdd, Nat.reduceMul, Nat.reduceLeDiff, Nat.reduceLT, Nat.reduceBEq, reduceCtorEq]
  refine LoopR_fn (τ := Nat × St) (fun q => ⟨[al acts.length (actsE acts), au lease, dd, dd, dd, .one (.ptr ⟨5, 0, 1⟩ 0), ai q.1, dd, dd, dd, dd, dd, dd, dd, dd, dd, dd, dd, dd, dd, dd, dd, dd, dd, dd, dd, dd, dd, dd, dd, dd, dd, dd, dd, dd, dd, dd, dd, dd, dd, dd, dd, dd, dd, dd, dd, dd, dd, dd, dd, dd, dd, dd, dd, dd, dd, dd, dd, dd, dd, dd, dd, dd, dd, dd, dd, dd, dd, dd, dd, dd, dd, dd, dd, dd, dd, dd, dd, dd, dd, dd, dd, dd, dd, dd, dd, dd, dd, dd, dd, dd, dd, dd, dd, dd, dd, dd, dd, dd, dd, dd, dd, dd, dd, dd, dd, dd, dd, dd], [(5, { next := 2, l := [some { e := 1, var := true, fz := false, sz := 0, cells := [di q.2.time, di q.2.num, di q.2.token, .d (.sl q.2.sess.length (sessE q.2.sess)), .d (.sl q.2.locks.length (locksE q.2.locks)), .d (.sl q.2.memos.length (memosE q.2.memos))] }, none, none, none, none, none, none] }), (7, ⟨2, []⟩), (8, ⟨2, []⟩), (9, ⟨2, []⟩), (34, ⟨2, []⟩), (43, ⟨2, []⟩)]⟩)
    (fun q => q.1 ≤ acts.length ∧ q.1 ≤ 60 ∧ RightS q.2 ∧ q.2.num ≤ q.1 ∧ q.2.token ≤ 8 * q.1) (fun _ => ()) (fun q => acts.length - q.1) (0, st0)
    (Gh.canon [5] [7, 8, 9, 34, 43] [] (by simp only [fgc_dead, fgc_dv, fgc_lent, fgc_nil, fgc_ptr, fgc_own, List.set_cons_zero, List.set_cons_succ, and_true, true_and, Int.natCast_zero, Int.cast_ofNat_Int, D.v.injEq, Value.int.injEq]; try (repeat' (first | rfl | omega | with_reducible apply And.intro))) rfl rfl) ⟨Nat.zero_le _, by decide, st0_right, by decide, by decide⟩ ?_
  intro ⟨i, s⟩ ⟨j1, j2, j3, j4, j5⟩ hF K hK
  simp only at j1 j2 j3 j4 j5 hF hK ⊢
  have hH : High = 2305843009213693952 := rfl
  repeat (first | with_reducible refine SeqQ_normal _ _ ?_ | with_reducible refine And.imp_right (SeqQ_normal _ _) ?_ | with_reducible refine And.imp_right (And.imp_right (SeqQ_normal _ _)) ?_ | with_reducible refine And.imp_right (And.imp_right (And.imp_right (SeqQ_normal _ _))) ?_ | rw [awp_seq] | simp only [pkS, TyB,  implies_true, forall_const, Nat.reduceSub, Nat.reduceEqDiff, Nat.reduceAdd, Nat.reduceMul, Nat.reduceLeDiff, Nat.reduceLT, Nat.reduceBEq, reduceCtorEq])
  refine CondR_of (fun hlt => ?_) (fun hge => ?_)
  · have hlt2 : i < acts.length ∧ i < 60 := by simp at hlt; omega
    have hi := hlt2.1
    have hat := acts_at hi
    have hw := i64_succ hi (by omega)
    have hao := ha _ (List.getElem_mem hi)
    have hwt := byte_wrap hao.1
    have htm := tmod_pos hao.1.1 16
    have hrt := j3.time
    have hwa : IntKind.i64.wrap (s.time + acts[i].time % 16) = s.time + acts[i].time % 16 := wrap64 (by omega) (by omega)
    have had := advance_ok s (right_small j3) j3 (s.time + acts[i].time % 16) lease
    obtain ⟨r1, r2, r3, r4, r5⟩ := right_advance j3 (s.time + acts[i].time % 16) lease (by omega)
    generalize advanceP s (s.time + acts[i].time % 16) lease = t at *
    have hrq := request_ok t (right_small r1) r1 acts[i] hao
    have hro := reqA_ok r1 hao
    generalize reqA t acts[i] = q at *
    have hap := apply_ok t (right_small r1) r1 q hro (fun hm => done_reply r1 hm (by omega) (by omega))
    obtain ⟨d1, d2, d3, d4, d5⟩ := right_apply r1 q (by omega) (by omega)
    generalize applyP t q = U at *
    have hri := right_ok t (right_small r1)
    rw [rightB_iff.2 r1] at hri
    have hri2 := right_ok U.1 (right_small d1)
    rw [rightB_iff.2 d1] at hri2
    have c1 : decide (t.token < s.token) = false := by simp; omega
    have c2 : decide (U.1.token < t.token) = false := by simp; omega
    have c3 : decide (U.1.num < t.num) = false := by simp; omega
    have c4 : (t.num != s.num) = false := by simp; omega
    have c5 : (U.1.time != t.time) = false := by simp; omega
    have c6 : decide (t.time < s.time) = false := by simp; omega
    have c7 : decide (U.2.1.code < 0) = false := by simp; omega
    have c8 : decide (U.2.1.code > 12) = false := by simp; omega
    repeat' (first | (with_reducible first | refine SeqQ_normal _ _ ?_ | refine CondR_tt ?_ | refine CondR_ff ?_) | rw [awp_seq] | simp only [pkS, TyB, hat, hwt, htm, hwa, hwl, c1, c2, c3, c4, c5, c6, c7, c8, List.cons_append, List.nil_append, acts_len, pkY, Int.reduceEq, bne_self_eq_false, Int.reduceBEq, Int.reduceBNe, implies_true, forall_const, Nat.reduceSub, Nat.reduceEqDiff, Nat.reduceAdd, Nat.reduceMul, Nat.reduceLeDiff, Nat.reduceLT, Nat.reduceBEq, reduceCtorEq] | ((try refine CallRG_tt ?_); apply CallR_of; (solve | exact (had) | exact (hrq) | exact (hap) | exact (hri) | exact (hri2) | (refine CallOK.le (had) ?_; simp [argsLe, aLe, csLe, cLe]) | (refine CallOK.le (hrq) ?_; simp [argsLe, aLe, csLe, cLe]) | (refine CallOK.le (hap) ?_; simp [argsLe, aLe, csLe, cLe]) | (refine CallOK.le (hri) ?_; simp [argsLe, aLe, csLe, cLe]) | (refine CallOK.le (hri2) ?_; simp [argsLe, aLe, csLe, cLe]))) | (apply CallRG_of; (focus (intro _; (solve | exact (had) | exact (hrq) | exact (hap) | exact (hri) | exact (hri2) | (refine CallOK.le (had) ?_; simp [argsLe, aLe, csLe, cLe]) | (refine CallOK.le (hrq) ?_; simp [argsLe, aLe, csLe, cLe]) | (refine CallOK.le (hap) ?_; simp [argsLe, aLe, csLe, cLe]) | (refine CallOK.le (hri) ?_; simp [argsLe, aLe, csLe, cLe]) | (refine CallOK.le (hri2) ?_; simp [argsLe, aLe, csLe, cLe])))); (focus rfl)) | refine CallRG_no ?_ | refine CondR_of (fun hb => ?_) (fun hb => ?_) | (refine And.intro ?_ ?_; focus ((try with_reducible refine GIm_of ?_); first | (with_reducible rfl) | ((with_reducible first | refine rng_of ?_ | refine ordOK_of ?_ | refine chk_of ?_); kernel_rfl) | (intros; omega) | (intro q p; rw [q, p]; rfl) | (intro q; rw [q]; rfl) | (intro q; simp only [Bool.and_eq_true, decide_eq_true_eq, beq_iff_eq] at q; omega) | (intros; simp_all; done) | (intros; simp [List.range, List.range.loop]; done) | (intros; simp_all [List.range, List.range.loop]; done))) | refine And.intro (fun hg => ?_) (fun hg => ?_) | (with_reducible refine chk_of ?_; kernel_rfl) | fail)
    exact hK _ (i + 1, U.1) (Gh.canon [5] [] [] (by simp only [hw, fgc_dead, fgc_dv, fgc_lent, fgc_nil, fgc_ptr, fgc_own, List.set_cons_zero, List.set_cons_succ, and_true, true_and, Int.natCast_zero, Int.cast_ofNat_Int, D.v.injEq, Value.int.injEq]; try (repeat' (first | rfl | omega | with_reducible apply And.intro))) rfl rfl) ⟨hi, by simp only; omega, d1, by simp only; omega, by simp only; omega⟩ trivial (by simp only; omega)
  · repeat' (first | (with_reducible first | refine SeqQ_normal _ _ ?_ | refine CondR_tt ?_ | refine CondR_ff ?_) | rw [awp_seq] | simp only [pkS, TyB, pkY, Int.reduceEq, bne_self_eq_false, Int.reduceBEq, Int.reduceBNe, implies_true, forall_const, Nat.reduceSub, Nat.reduceEqDiff, Nat.reduceAdd, Nat.reduceMul, Nat.reduceLeDiff, Nat.reduceLT, Nat.reduceBEq, reduceCtorEq] | ((try refine CallRG_tt ?_); apply CallR_of; (solve | exact (haw) | (refine CallOK.le (haw) ?_; simp [argsLe, aLe, csLe, cLe]))) | (apply CallRG_of; (focus (intro _; (solve | exact (haw) | (refine CallOK.le (haw) ?_; simp [argsLe, aLe, csLe, cLe])))); (focus rfl)) | refine CallRG_no ?_ | refine CondR_of (fun hb => ?_) (fun hb => ?_) | (refine And.intro ?_ ?_; focus ((try with_reducible refine GIm_of ?_); first | (with_reducible rfl) | ((with_reducible first | refine rng_of ?_ | refine ordOK_of ?_ | refine chk_of ?_); kernel_rfl) | (intros; omega) | (intro q p; rw [q, p]; rfl) | (intro q; rw [q]; rfl) | (intro q; simp only [Bool.and_eq_true, decide_eq_true_eq, beq_iff_eq] at q; omega) | (intros; simp_all; done) | (intros; simp [List.range, List.range.loop]; done) | (intros; simp_all [List.range, List.range.loop]; done))) | refine And.intro (fun hg => ?_) (fun hg => ?_) | (with_reducible refine chk_of ?_; kernel_rfl) | fail)
end Go.Proofs.Ytniafckaafcpbaa

