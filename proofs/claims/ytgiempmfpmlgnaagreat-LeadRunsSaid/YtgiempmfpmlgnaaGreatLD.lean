/- The leader: what is trimmed, added. -/
import Derived.Test.YtgiempmfpmlgnaaGreatLC
namespace Go.Proofs.YtgiempmfpmlgnaaGreat
open Go.Pk
set_option maxRecDepth 100000
set_option linter.unusedSimpArgs false
set_option linter.unusedVariables false
theorem trimC_ok (v : Vote) (d : Int) : CallOK Tryz.prog 49 [.f (.agg (v.enc.map C.d)), .f (.one (.elt [iD d]))] (fun r o => r = [rb (decide (v.slot ≤ d))] ∧ o = []) := by
  refine callOK_of TOKTy mixed (T := Ty) (n := 8) Tryz.func49 (c := Tryz.f49.body.getD .skip) rfl Tryz.results49 Tryz.ntmps49 Tryz.call49 ?_
  simp only [Tryz.f49, Option.getD]
  repeat' (first | (with_reducible first | refine SeqQ_normal _ _ ?_ | refine CondR_tt ?_ | refine CondR_ff ?_) | rw [awp_seq] | simp only [pkS, TyB, pkY, Int.reduceEq, bne_self_eq_false, Int.reduceBEq, Int.reduceBNe, implies_true, forall_const, Nat.reduceSub, Nat.reduceEqDiff, Nat.reduceAdd, Nat.reduceMul, Nat.reduceLeDiff, Nat.reduceLT, Nat.reduceBEq, reduceCtorEq] | refine CallRG_no ?_ | refine CondR_of (fun hb => ?_) (fun hb => ?_) | (refine And.intro ?_ ?_; focus ((try with_reducible refine GIm_of ?_); first | (with_reducible rfl) | ((with_reducible first | refine rng_of ?_ | refine ordOK_of ?_ | refine chk_of ?_); kernel_rfl) | (intros; omega) | (intro q p; rw [q, p]; rfl) | (intro q; rw [q]; rfl) | (intro q; simp only [Bool.and_eq_true, decide_eq_true_eq, beq_iff_eq] at q; omega) | (intros; simp_all; done) | (intros; simp [List.range, List.range.loop]; done) | (intros; simp_all [List.range, List.range.loop]; done))) | refine And.intro (fun hg => ?_) (fun hg => ?_) | (with_reducible refine chk_of ?_; kernel_rfl) | fail)
def trimP (L : LeadS) (d : Int) : LeadS := if (L.phase != 2) = true then L else if decide (d ≥ L.next) = true then stopP L else { L with slots := L.slots.filter fun v => !decide (v.slot ≤ d) }
set_option maxHeartbeats 1000000 in
theorem trim_ok (L : LeadS) (d : Int) (hL : L.slots.length < 2 ^ 30) : CallOK Tryz.prog 15 [.obj L.ro, .f (ai d)] (fun r o => r = [] ∧ o = [(trimP L d).ro]) := by
  refine CallOK.leR ?_
  refine callOK_of TOKTy mixed (T := Ty) (n := 30) Tryz.func15 (c := Tryz.f15.body.getD .skip) rfl Tryz.results15 Tryz.ntmps15 Tryz.call15 ?_
  simp only [Tryz.f15, Option.getD]
  cases hph : (L.phase != 2)
  · cases hd : decide (d ≥ L.next)
    · have ht : trimP L d = { L with slots := L.slots.filter fun v => !decide (v.slot ≤ d) } := by rw [trimP, if_neg (by rw [hph]; simp), if_neg (by rw [hd]; simp)]
      rw [ht]
      repeat' (first | (with_reducible first | refine SeqQ_normal _ _ ?_ | refine CondR_tt ?_ | refine CondR_ff ?_) | rw [awp_seq] | simp only [pkS, TyB, hph, hd, pkY, Int.reduceEq, bne_self_eq_false, Int.reduceBEq, Int.reduceBNe, implies_true, forall_const, Nat.reduceSub, Nat.reduceEqDiff, Nat.reduceAdd, Nat.reduceMul, Nat.reduceLeDiff, Nat.reduceLT, Nat.reduceBEq, reduceCtorEq] | refine CallRG_no ?_ | refine CondR_of (fun hb => ?_) (fun hb => ?_) | (refine And.intro ?_ ?_; focus ((try with_reducible refine GIm_of ?_); first | (with_reducible rfl) | ((with_reducible first | refine rng_of ?_ | refine ordOK_of ?_ | refine chk_of ?_); kernel_rfl) | (intros; omega) | (intro q p; rw [q, p]; rfl) | (intro q; rw [q]; rfl) | (intro q; simp only [Bool.and_eq_true, decide_eq_true_eq, beq_iff_eq] at q; omega) | (intros; simp_all; done) | (intros; simp [List.range, List.range.loop]; done) | (intros; simp_all [List.range, List.range.loop]; done))) | refine And.intro (fun hg => ?_) (fun hg => ?_) | (with_reducible refine chk_of ?_; kernel_rfl) | fail)
      refine CallM_of (mv := ?mv1) (lent := ?le1) 0 ?ha1 (delf_vote L.slots (by omega) (fun v => decide (v.slot ≤ d)) 49 [.elt [iD d]] (fun _ => rfl) (fun _ => rfl) (fun _ _ => rfl) (fun _ => rfl) (fun x _ => trimC_ok x d)) ?hb1 ?hc1
      case ha1 => (try simp only [pkS, TyB, toDs_map, implies_true, forall_const, Nat.reduceSub, Nat.reduceEqDiff, Nat.reduceAdd, Nat.reduceMul, Nat.reduceLeDiff, Nat.reduceLT, Nat.reduceBEq, reduceCtorEq]); exact rfl
      case hb1 => (try simp only [pkS, TyB, scM, implies_true, forall_const, Nat.reduceSub, Nat.reduceEqDiff, Nat.reduceAdd, Nat.reduceMul, Nat.reduceLeDiff, Nat.reduceLT, Nat.reduceBEq, reduceCtorEq]); repeat' (first | rfl | trivial | omega | with_reducible refine And.intro ?_ ?_)
      show aops _ _ _ _ _ _ _ _
      repeat' (first | (with_reducible first | refine SeqQ_normal _ _ ?_ | refine CondR_tt ?_ | refine CondR_ff ?_) | rw [awp_seq] | simp only [pkS, TyB, pkY, Int.reduceEq, bne_self_eq_false, Int.reduceBEq, Int.reduceBNe, implies_true, forall_const, Nat.reduceSub, Nat.reduceEqDiff, Nat.reduceAdd, Nat.reduceMul, Nat.reduceLeDiff, Nat.reduceLT, Nat.reduceBEq, reduceCtorEq] | refine CallRG_no ?_ | refine CondR_of (fun hb => ?_) (fun hb => ?_) | (refine And.intro ?_ ?_; focus ((try with_reducible refine GIm_of ?_); first | (with_reducible rfl) | ((with_reducible first | refine rng_of ?_ | refine ordOK_of ?_ | refine chk_of ?_); kernel_rfl) | (intros; omega) | (intro q p; rw [q, p]; rfl) | (intro q; rw [q]; rfl) | (intro q; simp only [Bool.and_eq_true, decide_eq_true_eq, beq_iff_eq] at q; omega) | (intros; simp_all; done) | (intros; simp [List.range, List.range.loop]; done) | (intros; simp_all [List.range, List.range.loop]; done))) | refine And.intro (fun hg => ?_) (fun hg => ?_) | (with_reducible refine chk_of ?_; kernel_rfl) | fail)
      exact ⟨rfl, rfsB_refl, objsB_refl⟩
    · have ht : trimP L d = stopP L := by rw [trimP, if_neg (by rw [hph]; simp), if_pos hd]
      rw [ht]
      repeat' (first | (with_reducible first | refine SeqQ_normal _ _ ?_ | refine CondR_tt ?_ | refine CondR_ff ?_) | rw [awp_seq] | simp only [pkS, TyB, hph, hd, pkY, Int.reduceEq, bne_self_eq_false, Int.reduceBEq, Int.reduceBNe, implies_true, forall_const, Nat.reduceSub, Nat.reduceEqDiff, Nat.reduceAdd, Nat.reduceMul, Nat.reduceLeDiff, Nat.reduceLT, Nat.reduceBEq, reduceCtorEq] | refine CallRG_no ?_ | refine CondR_of (fun hb => ?_) (fun hb => ?_) | (refine And.intro ?_ ?_; focus ((try with_reducible refine GIm_of ?_); first | (with_reducible rfl) | ((with_reducible first | refine rng_of ?_ | refine ordOK_of ?_ | refine chk_of ?_); kernel_rfl) | (intros; omega) | (intro q p; rw [q, p]; rfl) | (intro q; rw [q]; rfl) | (intro q; simp only [Bool.and_eq_true, decide_eq_true_eq, beq_iff_eq] at q; omega) | (intros; simp_all; done) | (intros; simp [List.range, List.range.loop]; done) | (intros; simp_all [List.range, List.range.loop]; done))) | refine And.intro (fun hg => ?_) (fun hg => ?_) | (with_reducible refine chk_of ?_; kernel_rfl) | fail)
      refine CallM_of (mv := ?mv2) (lent := ?le2) 0 ?ha2 (stop_ok L) ?hb2 ?hc2
      case ha2 => (try simp only [pkS, TyB, toDs_map, implies_true, forall_const, Nat.reduceSub, Nat.reduceEqDiff, Nat.reduceAdd, Nat.reduceMul, Nat.reduceLeDiff, Nat.reduceLT, Nat.reduceBEq, reduceCtorEq]); exact rfl
      case hb2 => (try simp only [pkS, TyB, scM, implies_true, forall_const, Nat.reduceSub, Nat.reduceEqDiff, Nat.reduceAdd, Nat.reduceMul, Nat.reduceLeDiff, Nat.reduceLT, Nat.reduceBEq, reduceCtorEq]); repeat' (first | rfl | trivial | omega | with_reducible refine And.intro ?_ ?_)
      show aops _ _ _ _ _ _ _ _
      repeat' (first | (with_reducible first | refine SeqQ_normal _ _ ?_ | refine CondR_tt ?_ | refine CondR_ff ?_) | rw [awp_seq] | simp only [pkS, TyB, pkY, Int.reduceEq, bne_self_eq_false, Int.reduceBEq, Int.reduceBNe, implies_true, forall_const, Nat.reduceSub, Nat.reduceEqDiff, Nat.reduceAdd, Nat.reduceMul, Nat.reduceLeDiff, Nat.reduceLT, Nat.reduceBEq, reduceCtorEq] | refine CallRG_no ?_ | refine CondR_of (fun hb => ?_) (fun hb => ?_) | (refine And.intro ?_ ?_; focus ((try with_reducible refine GIm_of ?_); first | (with_reducible rfl) | ((with_reducible first | refine rng_of ?_ | refine ordOK_of ?_ | refine chk_of ?_); kernel_rfl) | (intros; omega) | (intro q p; rw [q, p]; rfl) | (intro q; rw [q]; rfl) | (intro q; simp only [Bool.and_eq_true, decide_eq_true_eq, beq_iff_eq] at q; omega) | (intros; simp_all; done) | (intros; simp [List.range, List.range.loop]; done) | (intros; simp_all [List.range, List.range.loop]; done))) | refine And.intro (fun hg => ?_) (fun hg => ?_) | (with_reducible refine chk_of ?_; kernel_rfl) | fail)
      exact ⟨rfl, rfsB_refl, objsB_refl⟩
  · have ht : trimP L d = L := by rw [trimP, if_pos hph]
    rw [ht]
    repeat' (first | (with_reducible first | refine SeqQ_normal _ _ ?_ | refine CondR_tt ?_ | refine CondR_ff ?_) | rw [awp_seq] | simp only [pkS, TyB, hph, pkY, Int.reduceEq, bne_self_eq_false, Int.reduceBEq, Int.reduceBNe, implies_true, forall_const, Nat.reduceSub, Nat.reduceEqDiff, Nat.reduceAdd, Nat.reduceMul, Nat.reduceLeDiff, Nat.reduceLT, Nat.reduceBEq, reduceCtorEq] | refine CallRG_no ?_ | refine CondR_of (fun hb => ?_) (fun hb => ?_) | (refine And.intro ?_ ?_; focus ((try with_reducible refine GIm_of ?_); first | (with_reducible rfl) | ((with_reducible first | refine rng_of ?_ | refine ordOK_of ?_ | refine chk_of ?_); kernel_rfl) | (intros; omega) | (intro q p; rw [q, p]; rfl) | (intro q; rw [q]; rfl) | (intro q; simp only [Bool.and_eq_true, decide_eq_true_eq, beq_iff_eq] at q; omega) | (intros; simp_all; done) | (intros; simp [List.range, List.range.loop]; done) | (intros; simp_all [List.range, List.range.loop]; done))) | refine And.intro (fun hg => ?_) (fun hg => ?_) | (with_reducible refine chk_of ?_; kernel_rfl) | fail)
    exact ⟨rfl, rfsB_refl, objsB_refl⟩
def mayAdd (done time : Int) (rs : List Req) : Bool := !(decide (time < 0) || decide (time > High) || decide (done < 0) || decide (done > High) || !Batch.may ⟨false, 0, ⟨0, 0⟩, 0, rs⟩)
def addP (L : LeadS) (done time : Int) (rs : List Req) : LeadS × Int × Int :=
  if (L.phase != 2) = true then (L, 0, 11) else if mayAdd done time rs = false then (L, 0, 1) else
  if (decide (L.next > done + 3) || decide (L.next > High)) = true then (L, 0, 5) else
  ({ L with slots := L.slots ++ [⟨L.next, L.view, ⟨false, L.view, L.tip, time, rs⟩⟩], tip := ⟨L.view, L.next⟩, time := max L.time time, next := L.next + 1 }, L.next, 0)
set_option maxHeartbeats 2000000 in
theorem add_ok (L : LeadS) (done time : Int) (rs : List Req) (hL : L.slots.length < 2 ^ 30) (hn : 0 ≤ L.next) (hrs : rs.length < 2 ^ 30) (hr : ∀ r ∈ rs, r.ok) :
    CallOK Tryz.prog 13 [.obj L.ro, .f (ai done), .f (ai time), .f (al rs.length (reqsE rs))] (fun r o => r = [ri (addP L done time rs).2.1, ri (addP L done time rs).2.2] ∧ o = [(addP L done time rs).1.ro]) := by
  refine CallOK.leR ?_
  refine callOK_of TOKTy mixed (T := Ty) (n := 111) Tryz.func13 (c := Tryz.f13.body.getD .skip) rfl Tryz.results13 Tryz.ntmps13 Tryz.call13 ?_
  simp only [Tryz.f13, Option.getD]
  have hbm := batchMay_ok ⟨false, 0, ⟨0, 0⟩, 0, rs⟩ ⟨by simp [i64], by simp [i64], by simp [i64], by simp [i64], by simp only; omega, hr⟩
  have hcl := cloneReq_ok rs.length (reqsE rs) reqs_len (by omega)
  cases hph : (L.phase != 2)
  · cases hma : mayAdd done time rs
    · have hne : addP L done time rs = (L, 0, 1) := by rw [addP, if_neg (by rw [hph]; simp), if_pos hma]
      rw [hne]
      have hma' : (decide (time < 0) || decide (time > High) || decide (done < 0) || decide (done > High) || !Batch.may ⟨false, 0, ⟨0, 0⟩, 0, rs⟩) = true := by
        unfold mayAdd at hma
        generalize (decide (time < 0) || decide (time > High) || decide (done < 0) || decide (done > High) || !Batch.may ⟨false, 0, ⟨0, 0⟩, 0, rs⟩) = x at hma ⊢
        cases x <;> simp at hma ⊢
      repeat' (first | (with_reducible first | refine SeqQ_normal _ _ ?_ | refine CondR_tt ?_ | refine CondR_ff ?_) | rw [awp_seq] | simp only [pkS, TyB, hph, hma', pkY, Int.reduceEq, bne_self_eq_false, Int.reduceBEq, Int.reduceBNe, implies_true, forall_const, Nat.reduceSub, Nat.reduceEqDiff, Nat.reduceAdd, Nat.reduceMul, Nat.reduceLeDiff, Nat.reduceLT, Nat.reduceBEq, reduceCtorEq] | ((try refine CallRG_tt ?_); apply CallR_of; (solve | exact (hbm) | (refine CallOK.le (hbm) ?_; simp [argsLe, aLe, csLe, cLe]))) | (apply CallRG_of; (focus (intro _; (solve | exact (hbm) | (refine CallOK.le (hbm) ?_; simp [argsLe, aLe, csLe, cLe])))); (focus rfl)) | refine CallRG_no ?_ | refine CondR_of (fun hb => ?_) (fun hb => ?_) | (refine And.intro ?_ ?_; focus ((try with_reducible refine GIm_of ?_); first | (with_reducible rfl) | ((with_reducible first | refine rng_of ?_ | refine ordOK_of ?_ | refine chk_of ?_); kernel_rfl) | (intros; omega) | (intro q p; rw [q, p]; rfl) | (intro q; rw [q]; rfl) | (intro q; simp only [Bool.and_eq_true, decide_eq_true_eq, beq_iff_eq] at q; omega) | (intros; simp_all; done) | (intros; simp [List.range, List.range.loop]; done) | (intros; simp_all [List.range, List.range.loop]; done))) | refine And.intro (fun hg => ?_) (fun hg => ?_) | (with_reducible refine chk_of ?_; kernel_rfl) | fail)
      exact ⟨rfl, rfsB_refl, objsB_refl⟩
    · have hma' := hma
      unfold mayAdd at hma'
      have hdone : 0 ≤ done ∧ done ≤ 2305843009213693952 := by
        have hH : High = 2305843009213693952 := rfl
        simp [hH] at hma'
        omega
      have hw3 : IntKind.i64.wrap (done + 3) = done + 3 := wrap64 (by omega) (by omega)
      cases hful : (decide (L.next > done + 3) || decide (L.next > High))
      · have hne : addP L done time rs = ({ L with slots := L.slots ++ [⟨L.next, L.view, ⟨false, L.view, L.tip, time, rs⟩⟩], tip := ⟨L.view, L.next⟩, time := max L.time time, next := L.next + 1 }, L.next, 0) := by
          rw [addP, if_neg (by rw [hph]; simp), if_neg (by rw [hma]; simp), if_neg (by rw [hful]; simp)]
        rw [hne]
        have hw1 : IntKind.i64.wrap (L.next + 1) = L.next + 1 := by
          simp at hful
          exact wrap64 (by omega) (by omega)
        have hma2 : (decide (time < 0) || decide (time > High) || decide (done < 0) || decide (done > High) || !Batch.may ⟨false, 0, ⟨0, 0⟩, 0, rs⟩) = false := by
          simpa using hma'
        repeat' (first | (with_reducible first | refine SeqQ_normal _ _ ?_ | refine CondR_tt ?_ | refine CondR_ff ?_) | rw [awp_seq] | simp only [pkS, TyB, hph, hma2, hful, hw3, hw1, pkY, Int.reduceEq, bne_self_eq_false, Int.reduceBEq, Int.reduceBNe, implies_true, forall_const, Nat.reduceSub, Nat.reduceEqDiff, Nat.reduceAdd, Nat.reduceMul, Nat.reduceLeDiff, Nat.reduceLT, Nat.reduceBEq, reduceCtorEq] | ((try refine CallRG_tt ?_); apply CallR_of; (solve | exact (hbm) | exact (hcl) | (refine CallOK.le (hbm) ?_; simp [argsLe, aLe, csLe, cLe]) | (refine CallOK.le (hcl) ?_; simp [argsLe, aLe, csLe, cLe]))) | (apply CallRG_of; (focus (intro _; (solve | exact (hbm) | exact (hcl) | (refine CallOK.le (hbm) ?_; simp [argsLe, aLe, csLe, cLe]) | (refine CallOK.le (hcl) ?_; simp [argsLe, aLe, csLe, cLe])))); (focus rfl)) | refine CallRG_no ?_ | refine CondR_of (fun hb => ?_) (fun hb => ?_) | (refine And.intro ?_ ?_; focus ((try with_reducible refine GIm_of ?_); first | (with_reducible rfl) | ((with_reducible first | refine rng_of ?_ | refine ordOK_of ?_ | refine chk_of ?_); kernel_rfl) | (intros; omega) | (intro q p; rw [q, p]; rfl) | (intro q; rw [q]; rfl) | (intro q; simp only [Bool.and_eq_true, decide_eq_true_eq, beq_iff_eq] at q; omega) | (intros; simp_all; done) | (intros; simp [List.range, List.range.loop]; done) | (intros; simp_all [List.range, List.range.loop]; done))) | refine And.intro (fun hg => ?_) (fun hg => ?_) | (with_reducible refine chk_of ?_; kernel_rfl) | fail)
        refine ⟨rfl, rfsB_refl, ?_⟩
        simp [objsB, rosB, roB, votesE]
      · have hne : addP L done time rs = (L, 0, 5) := by
          rw [addP, if_neg (by rw [hph]; simp), if_neg (by rw [hma]; simp), if_pos hful]
        rw [hne]
        have hma2 : (decide (time < 0) || decide (time > High) || decide (done < 0) || decide (done > High) || !Batch.may ⟨false, 0, ⟨0, 0⟩, 0, rs⟩) = false := by
          simpa using hma'
        repeat' (first | (with_reducible first | refine SeqQ_normal _ _ ?_ | refine CondR_tt ?_ | refine CondR_ff ?_) | rw [awp_seq] | simp only [pkS, TyB, hph, hma2, hful, hw3, pkY, Int.reduceEq, bne_self_eq_false, Int.reduceBEq, Int.reduceBNe, implies_true, forall_const, Nat.reduceSub, Nat.reduceEqDiff, Nat.reduceAdd, Nat.reduceMul, Nat.reduceLeDiff, Nat.reduceLT, Nat.reduceBEq, reduceCtorEq] | ((try refine CallRG_tt ?_); apply CallR_of; (solve | exact (hbm) | exact (hcl) | (refine CallOK.le (hbm) ?_; simp [argsLe, aLe, csLe, cLe]) | (refine CallOK.le (hcl) ?_; simp [argsLe, aLe, csLe, cLe]))) | (apply CallRG_of; (focus (intro _; (solve | exact (hbm) | exact (hcl) | (refine CallOK.le (hbm) ?_; simp [argsLe, aLe, csLe, cLe]) | (refine CallOK.le (hcl) ?_; simp [argsLe, aLe, csLe, cLe])))); (focus rfl)) | refine CallRG_no ?_ | refine CondR_of (fun hb => ?_) (fun hb => ?_) | (refine And.intro ?_ ?_; focus ((try with_reducible refine GIm_of ?_); first | (with_reducible rfl) | ((with_reducible first | refine rng_of ?_ | refine ordOK_of ?_ | refine chk_of ?_); kernel_rfl) | (intros; omega) | (intro q p; rw [q, p]; rfl) | (intro q; rw [q]; rfl) | (intro q; simp only [Bool.and_eq_true, decide_eq_true_eq, beq_iff_eq] at q; omega) | (intros; simp_all; done) | (intros; simp [List.range, List.range.loop]; done) | (intros; simp_all [List.range, List.range.loop]; done))) | refine And.intro (fun hg => ?_) (fun hg => ?_) | (with_reducible refine chk_of ?_; kernel_rfl) | fail)
        exact ⟨rfl, rfsB_refl, objsB_refl⟩
  · have hne : addP L done time rs = (L, 0, 11) := by rw [addP, if_pos hph]
    rw [hne]
    repeat' (first | (with_reducible first | refine SeqQ_normal _ _ ?_ | refine CondR_tt ?_ | refine CondR_ff ?_) | rw [awp_seq] | simp only [pkS, TyB, hph, pkY, Int.reduceEq, bne_self_eq_false, Int.reduceBEq, Int.reduceBNe, implies_true, forall_const, Nat.reduceSub, Nat.reduceEqDiff, Nat.reduceAdd, Nat.reduceMul, Nat.reduceLeDiff, Nat.reduceLT, Nat.reduceBEq, reduceCtorEq] | refine CallRG_no ?_ | refine CondR_of (fun hb => ?_) (fun hb => ?_) | (refine And.intro ?_ ?_; focus ((try with_reducible refine GIm_of ?_); first | (with_reducible rfl) | ((with_reducible first | refine rng_of ?_ | refine ordOK_of ?_ | refine chk_of ?_); kernel_rfl) | (intros; omega) | (intro q p; rw [q, p]; rfl) | (intro q; rw [q]; rfl) | (intro q; simp only [Bool.and_eq_true, decide_eq_true_eq, beq_iff_eq] at q; omega) | (intros; simp_all; done) | (intros; simp [List.range, List.range.loop]; done) | (intros; simp_all [List.range, List.range.loop]; done))) | refine And.intro (fun hg => ?_) (fun hg => ?_) | (with_reducible refine chk_of ?_; kernel_rfl) | fail)
    exact ⟨rfl, rfsB_refl, objsB_refl⟩
end Go.Proofs.YtgiempmfpmlgnaaGreat

