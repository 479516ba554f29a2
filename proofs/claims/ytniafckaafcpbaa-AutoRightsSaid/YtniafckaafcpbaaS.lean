/- The automaton: Apply. -/
import Derived.Test.YtniafckaafcpbaaR
namespace Go.Proofs.Ytniafckaafcpbaa
open Go.Pk
set_option maxRecDepth 100000
set_option linter.unusedSimpArgs false
set_option linter.unusedVariables false
theorem small_done {s : St} (h : Small s) (r : Req) : (doneP s r).1.memos = s.memos := by
  unfold doneP
  split
  · unfold openedP
    split
    · rfl
    · split <;> rfl
  · split
    · rfl
    · split
      · rfl
      · simp only
        repeat' split
        all_goals rfl
theorem nameP_size {b : ByteArray} (h : nameP b = true) : b.size ≤ 12 := by
  unfold nameP at h
  simp only [Bool.and_eq_true, decide_eq_true_eq] at h
  omega
theorem replyB_ok {r : Reply} (h : replyB r = true) : replyOk r := by
  unfold replyB at h
  simp only [Bool.and_eq_true, Bool.not_eq_true', Bool.or_eq_false_iff, decide_eq_false_iff_not] at h
  obtain ⟨⟨_, h1, _⟩, h2⟩ := h
  refine ⟨by omega, fun g hg => ?_⟩
  obtain ⟨j, hj, rfl⟩ := List.getElem_of_mem hg
  have := checkP_iff.1 h2 j hj
  unfold grantQ at this
  simp only [Bool.not_eq_true', Bool.or_eq_false_iff, Bool.not_eq_false'] at this
  have := nameP_size this.1.1.1
  omega
theorem sorted_len : ∀ {l : List Int} {a b : Int}, l.Pairwise (· < ·) → (∀ x ∈ l, a ≤ x ∧ x < b) → (l.length : Int) ≤ max (b - a) 0
  | [], a, b, _, _ => by simp; omega
  | x :: l, a, b, h, hb => by
    have h' := List.pairwise_cons.1 h
    have hx := hb x (List.mem_cons_self ..)
    have := sorted_len (a := x + 1) (b := b) h'.2 (fun y hy => ⟨by have := h'.1 y hy; omega, (hb y (List.mem_cons_of_mem _ hy)).2⟩)
    simp only [List.length_cons]; omega
theorem answer_client {m : Memo} (h : answerB m = true) : (0 ≤ m.client ∧ m.client < 8) ∧ (1 ≤ m.seq ∧ m.seq ≤ High) ∧ replyB m.reply = true := by
  unfold answerB at h
  simp only [Bool.and_eq_true, decide_eq_true_eq] at h
  exact ⟨⟨h.1.1.1.1, h.1.1.1.2⟩, ⟨h.1.1.2, h.1.2⟩, h.2⟩
theorem right_small {s : St} (h : RightS s) : Small s := by
  refine ⟨by have := h.sl; omega, by have := h.ll; omega, ?_, fun k hk => ?_, fun m hm => replyB_ok (answer_client (h.mok m hm)).2.2⟩
  · have := sorted_len (a := 0) (b := 8) (SM_map.1 h.ms) (fun x hx => by
      obtain ⟨m, hm, rfl⟩ := List.mem_map.1 hx
      exact (answer_client (h.mok m hm)).1)
    rw [List.length_map] at this
    omega
  · obtain ⟨a, _, b, _⟩ := h.lok k hk
    have h1 := (lineB_iff.1 b).1
    have h2 := nameP_size (okLk_iff.1 a).1
    omega
theorem replyOk_held {l : List Lk} (hl : l.length < 2 ^ 30) (hn : ∀ k ∈ l, k.name.size < 2 ^ 62) (c : Int) (a b d : Int) : replyOk ⟨a, b, d, heldP l c⟩ := by
  refine ⟨?_, fun g hg => ?_⟩
  · unfold heldP
    rw [List.length_map]
    exact Nat.lt_of_le_of_lt (List.length_filter_le ..) hl
  · unfold heldP at hg
    obtain ⟨k, hk, rfl⟩ := List.mem_map.1 hg
    exact hn k (List.mem_filter.1 hk).1
theorem done_held (s : St) (r : Req) : (doneP s r).2.held = [] ∨ (doneP s r).2.held = heldP (doneP s r).1.locks r.client := by
  unfold doneP
  split
  · unfold openedP
    split
    · exact .inr rfl
    · split
      · exact .inl rfl
      · exact .inr rfl
  · split
    · exact .inl rfl
    · split
      · exact .inl rfl
      · simp only
        repeat' split
        all_goals first | exact .inr rfl | exact .inl rfl
theorem done_reply {s : St} (h : RightS s) {r : Req} (hm : Req.may r = true) (hN : s.num + 1 ≤ High) (hT : s.token + 4 ≤ High) : replyOk (doneP s r).2 := by
  have hs := right_small (right_done h hm hN hT).rt
  rcases done_held s r with e | e
  · exact ⟨by rw [e]; simp, fun g hg => by rw [e] at hg; cases hg⟩
  · have := replyOk_held hs.locks (fun k hk => (hs.line k hk).2) r.client 0 0 0
    unfold replyOk at this ⊢
    rw [e]
    exact this
set_option maxHeartbeats 2000000 in
theorem apply_ok (s : St) (h : Small s) (hr : RightS s) (r : Req) (hro : r.ok) (hdr : Req.may r = true → replyOk (doneP s r).2) : CallOK Try.prog 6 [.f (.agg s.lent), .f (.agg (r.enc.map C.d))]
    (fun x o => x = [stRF (applyP s r).1, replyRF (applyP s r).2.1, rb (applyP s r).2.2] ∧ o = []) := by
  refine CallOK.nil ?_
  refine callOK_of TOKTy mixed (T := Ty) (n := 59) Try.func6 (c := Try.f6.body.getD .skip) rfl Try.results6 Try.ntmps6 Try.call6 ?_
  simp only [Try.f6, Option.getD]
  have hcp := copied_ok s h
  have hmr := mayReq_ok r hro
  have hfr := fresh_ok s.memos hr.ms h.memos r.client r.seq
  have hla := last_ok s.memos hr.ms h.memos (fun m hm => (h.held m hm).1) r.client
  repeat' (first | (with_reducible first | refine stop_of 2 ?_ | refine stop_of1 2 ?_ | refine stop_of2 2 ?_) | (with_reducible first | refine SeqQ_normal _ _ ?_ | refine CondR_tt ?_ | refine CondR_ff ?_) | rw [awp_seq] | simp only [pkS, TyB, pkY, Int.reduceEq, bne_self_eq_false, Int.reduceBEq, Int.reduceBNe, implies_true, forall_const, Nat.reduceSub, Nat.reduceEqDiff, Nat.reduceAdd, Nat.reduceMul, Nat.reduceLeDiff, Nat.reduceLT, Nat.reduceBEq, reduceCtorEq] | ((try refine CallRG_tt ?_); apply CallR_of; (solve | exact (hcp) | (refine CallOK.le (hcp) ?_; simp [argsLe, aLe, csLe, cLe]))) | (apply CallRG_of; (focus (intro _; (solve | exact (hcp) | (refine CallOK.le (hcp) ?_; simp [argsLe, aLe, csLe, cLe])))); (focus rfl)) | refine CallRG_no ?_ | refine CondR_of (fun hb => ?_) (fun hb => ?_) | (refine And.intro ?_ ?_; focus ((try with_reducible refine GIm_of ?_); first | (with_reducible rfl) | ((with_reducible first | refine rng_of ?_ | refine ordOK_of ?_ | refine chk_of ?_); kernel_rfl) | (intros; omega) | (intro q p; rw [q, p]; rfl) | (intro q; rw [q]; rfl) | (intro q; simp only [Bool.and_eq_true, decide_eq_true_eq, beq_iff_eq] at q; omega) | (intros; simp_all; done) | (intros; simp [List.range, List.range.loop]; done) | (intros; simp_all [List.range, List.range.loop]; done))) | refine And.intro (fun hg => ?_) (fun hg => ?_) | (with_reducible refine chk_of ?_; kernel_rfl) | fail)
  refine stop_go (SeqQ_gh (Gh.sealF 2 3 (.own ⟨2, 4, 10⟩ 0 s.sess.length) ?_) ?_)
  · simp only [pkS, TyB, sealFOK, pkY, implies_true, forall_const, Nat.reduceSub, Nat.reduceEqDiff, Nat.reduceAdd, Nat.reduceMul, Nat.reduceLeDiff, Nat.reduceLT, Nat.reduceBEq, reduceCtorEq]
  simp only [pkS, TyB, sealFR, pkY, implies_true, forall_const, Nat.reduceSub, Nat.reduceEqDiff, Nat.reduceAdd, Nat.reduceMul, Nat.reduceLeDiff, Nat.reduceLT, Nat.reduceBEq, reduceCtorEq]
  refine SeqQ_gh (Gh.sealF 2 4 (.own ⟨2, 5, 11⟩ 0 s.locks.length) ?_) ?_
  · simp only [pkS, TyB, sealFOK, pkY, implies_true, forall_const, Nat.reduceSub, Nat.reduceEqDiff, Nat.reduceAdd, Nat.reduceMul, Nat.reduceLeDiff, Nat.reduceLT, Nat.reduceBEq, reduceCtorEq]
  simp only [pkS, TyB, sealFR, pkY, implies_true, forall_const, Nat.reduceSub, Nat.reduceEqDiff, Nat.reduceAdd, Nat.reduceMul, Nat.reduceLeDiff, Nat.reduceLT, Nat.reduceBEq, reduceCtorEq]
  refine SeqQ_gh (Gh.sealF 2 5 (.own ⟨2, 6, 12⟩ 0 s.memos.length) ?_) ?_
  · simp only [pkS, TyB, sealFOK, pkY, implies_true, forall_const, Nat.reduceSub, Nat.reduceEqDiff, Nat.reduceAdd, Nat.reduceMul, Nat.reduceLeDiff, Nat.reduceLT, Nat.reduceBEq, reduceCtorEq]
  simp only [pkS, TyB, sealFR, pkY, implies_true, forall_const, Nat.reduceSub, Nat.reduceEqDiff, Nat.reduceAdd, Nat.reduceMul, Nat.reduceLeDiff, Nat.reduceLT, Nat.reduceBEq, reduceCtorEq]
  cases hm : Req.may r
  · rw [hm] at hmr
    have ha : applyP s r = (s, ⟨1, 0, 0, []⟩, false) := by unfold applyP; rw [hm]; rfl
    rw [ha]
    repeat' (first | (with_reducible first | refine SeqQ_normal _ _ ?_ | refine CondR_tt ?_ | refine CondR_ff ?_) | rw [awp_seq] | simp only [pkS, TyB, pkY, Int.reduceEq, bne_self_eq_false, Int.reduceBEq, Int.reduceBNe, implies_true, forall_const, Nat.reduceSub, Nat.reduceEqDiff, Nat.reduceAdd, Nat.reduceMul, Nat.reduceLeDiff, Nat.reduceLT, Nat.reduceBEq, reduceCtorEq] | ((try refine CallRG_tt ?_); apply CallR_of; (solve | exact (hmr) | (refine CallOK.le (hmr) ?_; simp [argsLe, aLe, csLe, cLe]))) | (apply CallRG_of; (focus (intro _; (solve | exact (hmr) | (refine CallOK.le (hmr) ?_; simp [argsLe, aLe, csLe, cLe])))); (focus rfl)) | refine CallRG_no ?_ | refine CondR_of (fun hb => ?_) (fun hb => ?_) | (refine And.intro ?_ ?_; focus ((try with_reducible refine GIm_of ?_); first | (with_reducible rfl) | ((with_reducible first | refine rng_of ?_ | refine ordOK_of ?_ | refine chk_of ?_); kernel_rfl) | (intros; omega) | (intro q p; rw [q, p]; rfl) | (intro q; rw [q]; rfl) | (intro q; simp only [Bool.and_eq_true, decide_eq_true_eq, beq_iff_eq] at q; omega) | (intros; simp_all; done) | (intros; simp [List.range, List.range.loop]; done) | (intros; simp_all [List.range, List.range.loop]; done))) | refine And.intro (fun hg => ?_) (fun hg => ?_) | (with_reducible refine chk_of ?_; kernel_rfl) | fail)
    simp [rfsLe, rfLe, rosLe, roLe]
  · rw [hm] at hmr
    have hdo := done_ok s h hr r hm
    have hms := small_done h r
    have hke := keep_ok (doneP s r).1.memos (by rw [hms]; exact hr.ms) (by rw [hms]; exact h.memos) (by rw [hms]; exact fun m hm => (h.held m hm).1) ⟨r.client, r.seq, (doneP s r).2⟩ (hdr hm)
    cases f1 : freshP s.memos r.client r.seq == -1
    · cases f0 : freshP s.memos r.client r.seq == 0
      · have ha : applyP s r = ({ (doneP s r).1 with memos := keepP (doneP s r).1.memos ⟨r.client, r.seq, (doneP s r).2⟩ }, (doneP s r).2, true) := by
          unfold applyP
          rw [if_neg (by rw [hm]; simp), if_neg (by simpa using f1), if_neg (by simpa using f0)]
        rw [ha]
        repeat' (first | (with_reducible first | refine SeqQ_normal _ _ ?_ | refine CondR_tt ?_ | refine CondR_ff ?_) | rw [awp_seq] | simp only [pkS, TyB, f1, f0, pkY, Int.reduceEq, bne_self_eq_false, Int.reduceBEq, Int.reduceBNe, implies_true, forall_const, Nat.reduceSub, Nat.reduceEqDiff, Nat.reduceAdd, Nat.reduceMul, Nat.reduceLeDiff, Nat.reduceLT, Nat.reduceBEq, reduceCtorEq] | ((try refine CallRG_tt ?_); apply CallR_of; (solve | exact (hmr) | exact (hfr) | exact (hdo) | exact (hke) | (refine CallOK.le (hmr) ?_; simp [argsLe, aLe, csLe, cLe]) | (refine CallOK.le (hfr) ?_; simp [argsLe, aLe, csLe, cLe]) | (refine CallOK.le (hdo) ?_; simp [argsLe, aLe, csLe, cLe]) | (refine CallOK.le (hke) ?_; simp [argsLe, aLe, csLe, cLe]))) | (apply CallRG_of; (focus (intro _; (solve | exact (hmr) | exact (hfr) | exact (hdo) | exact (hke) | (refine CallOK.le (hmr) ?_; simp [argsLe, aLe, csLe, cLe]) | (refine CallOK.le (hfr) ?_; simp [argsLe, aLe, csLe, cLe]) | (refine CallOK.le (hdo) ?_; simp [argsLe, aLe, csLe, cLe]) | (refine CallOK.le (hke) ?_; simp [argsLe, aLe, csLe, cLe])))); (focus rfl)) | refine CallRG_no ?_ | refine CondR_of (fun hb => ?_) (fun hb => ?_) | (refine And.intro ?_ ?_; focus ((try with_reducible refine GIm_of ?_); first | (with_reducible rfl) | ((with_reducible first | refine rng_of ?_ | refine ordOK_of ?_ | refine chk_of ?_); kernel_rfl) | (intros; omega) | (intro q p; rw [q, p]; rfl) | (intro q; rw [q]; rfl) | (intro q; simp only [Bool.and_eq_true, decide_eq_true_eq, beq_iff_eq] at q; omega) | (intros; simp_all; done) | (intros; simp [List.range, List.range.loop]; done) | (intros; simp_all [List.range, List.range.loop]; done))) | refine And.intro (fun hg => ?_) (fun hg => ?_) | (with_reducible refine chk_of ?_; kernel_rfl) | fail)
        exact ⟨rfl, ⟨.inl rfl, .inl rfl, .inl rfl, .inl rfl, .inl rfl, .inr ⟨rfl, rfl, memos_len⟩, trivial⟩, ⟨.inl rfl, .inl rfl, .inl rfl, .inl rfl, trivial⟩, .inl rfl, trivial⟩
      · have ha : applyP s r = (s, ((findM s.memos r.client).getD noMemo).reply, false) := by
          unfold applyP
          rw [if_neg (by rw [hm]; simp), if_neg (by simpa using f1), if_pos (by simpa using f0)]
          cases findM s.memos r.client <;> rfl
        rw [ha]
        repeat' (first | (with_reducible first | refine SeqQ_normal _ _ ?_ | refine CondR_tt ?_ | refine CondR_ff ?_) | rw [awp_seq] | simp only [pkS, TyB, f1, f0, pkY, Int.reduceEq, bne_self_eq_false, Int.reduceBEq, Int.reduceBNe, implies_true, forall_const, Nat.reduceSub, Nat.reduceEqDiff, Nat.reduceAdd, Nat.reduceMul, Nat.reduceLeDiff, Nat.reduceLT, Nat.reduceBEq, reduceCtorEq] | ((try refine CallRG_tt ?_); apply CallR_of; (solve | exact (hmr) | exact (hfr) | exact (hla) | (refine CallOK.le (hmr) ?_; simp [argsLe, aLe, csLe, cLe]) | (refine CallOK.le (hfr) ?_; simp [argsLe, aLe, csLe, cLe]) | (refine CallOK.le (hla) ?_; simp [argsLe, aLe, csLe, cLe]))) | (apply CallRG_of; (focus (intro _; (solve | exact (hmr) | exact (hfr) | exact (hla) | (refine CallOK.le (hmr) ?_; simp [argsLe, aLe, csLe, cLe]) | (refine CallOK.le (hfr) ?_; simp [argsLe, aLe, csLe, cLe]) | (refine CallOK.le (hla) ?_; simp [argsLe, aLe, csLe, cLe])))); (focus rfl)) | refine CallRG_no ?_ | refine CondR_of (fun hb => ?_) (fun hb => ?_) | (refine And.intro ?_ ?_; focus ((try with_reducible refine GIm_of ?_); first | (with_reducible rfl) | ((with_reducible first | refine rng_of ?_ | refine ordOK_of ?_ | refine chk_of ?_); kernel_rfl) | (intros; omega) | (intro q p; rw [q, p]; rfl) | (intro q; rw [q]; rfl) | (intro q; simp only [Bool.and_eq_true, decide_eq_true_eq, beq_iff_eq] at q; omega) | (intros; simp_all; done) | (intros; simp [List.range, List.range.loop]; done) | (intros; simp_all [List.range, List.range.loop]; done))) | refine And.intro (fun hg => ?_) (fun hg => ?_) | (with_reducible refine chk_of ?_; kernel_rfl) | fail)
        simp [rfsLe, rfLe, rosLe, roLe]
    · have ha : applyP s r = (s, ⟨0, 0, 0, []⟩, false) := by
        unfold applyP
        rw [if_neg (by rw [hm]; simp), if_pos (by simpa using f1)]
      rw [ha]
      repeat' (first | (with_reducible first | refine SeqQ_normal _ _ ?_ | refine CondR_tt ?_ | refine CondR_ff ?_) | rw [awp_seq] | simp only [pkS, TyB, f1, pkY, Int.reduceEq, bne_self_eq_false, Int.reduceBEq, Int.reduceBNe, implies_true, forall_const, Nat.reduceSub, Nat.reduceEqDiff, Nat.reduceAdd, Nat.reduceMul, Nat.reduceLeDiff, Nat.reduceLT, Nat.reduceBEq, reduceCtorEq] | ((try refine CallRG_tt ?_); apply CallR_of; (solve | exact (hmr) | exact (hfr) | (refine CallOK.le (hmr) ?_; simp [argsLe, aLe, csLe, cLe]) | (refine CallOK.le (hfr) ?_; simp [argsLe, aLe, csLe, cLe]))) | (apply CallRG_of; (focus (intro _; (solve | exact (hmr) | exact (hfr) | (refine CallOK.le (hmr) ?_; simp [argsLe, aLe, csLe, cLe]) | (refine CallOK.le (hfr) ?_; simp [argsLe, aLe, csLe, cLe])))); (focus rfl)) | refine CallRG_no ?_ | refine CondR_of (fun hb => ?_) (fun hb => ?_) | (refine And.intro ?_ ?_; focus ((try with_reducible refine GIm_of ?_); first | (with_reducible rfl) | ((with_reducible first | refine rng_of ?_ | refine ordOK_of ?_ | refine chk_of ?_); kernel_rfl) | (intros; omega) | (intro q p; rw [q, p]; rfl) | (intro q; rw [q]; rfl) | (intro q; simp only [Bool.and_eq_true, decide_eq_true_eq, beq_iff_eq] at q; omega) | (intros; simp_all; done) | (intros; simp [List.range, List.range.loop]; done) | (intros; simp_all [List.range, List.range.loop]; done))) | refine And.intro (fun hg => ?_) (fun hg => ?_) | (with_reducible refine chk_of ?_; kernel_rfl) | fail)
      simp [rfsLe, rfLe, rosLe, roLe]
end Go.Proofs.Ytniafckaafcpbaa

