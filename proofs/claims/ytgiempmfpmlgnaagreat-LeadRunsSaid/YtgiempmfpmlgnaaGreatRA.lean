/- The document's leader. -/
import Derived.Test.YtgiempmfpmlgnaaGreatLF
import Derived.Test.YtgiempmfpmlgnaaGreatK7
namespace Go.Proofs.YtgiempmfpmlgnaaGreat
open Go.Pk
set_option maxRecDepth 100000
set_option linter.unusedSimpArgs false
set_option linter.unusedVariables false
structure RLead where
  n : Int
  phase : Int
  view : Int
  ps : List Prom
  first : Int
  bs : List Batch
  tip : Tip
  time : Int
abbrev RLead.ds (L : RLead) : List D := [iD L.n, iD L.phase, iD L.view, .sl L.ps.length (promisesE L.ps), iD L.first, .sl L.bs.length (batchesE L.bs), iD L.tip.view, iD L.tip.slot, iD L.time]
abbrev RLead.ro (L : RLead) : List RO := [.d (iD L.n), .d (iD L.phase), .d (iD L.view), .d (.sl L.ps.length (promisesE L.ps)), .d (iD L.first), .d (.sl L.bs.length (batchesE L.bs)), .d (iD L.tip.view), .d (iD L.tip.slot), .d (iD L.time)]
abbrev RLead.at (L : RLead) : AV := .one (.elt L.ds)
theorem some_ok (k : Int) : CallOK Tryz.prog 32 [.f (ai k)] (fun r o => r = [rb (decide (k ≥ 1) && decide (k ≤ 7))] ∧ o = []) := by
  refine callOK_of TOKTy mixed (T := Ty) (n := 9) Tryz.func32 (c := Tryz.f32.body.getD .skip) rfl Tryz.results32 Tryz.ntmps32 Tryz.call32 ?_
  simp only [Tryz.f32, Option.getD]
  repeat' (first | (with_reducible first | refine SeqQ_normal _ _ ?_ | refine CondR_tt ?_ | refine CondR_ff ?_) | rw [awp_seq] | simp only [pkS, TyB, pkY, Int.reduceEq, bne_self_eq_false, Int.reduceBEq, Int.reduceBNe, implies_true, forall_const, Nat.reduceSub, Nat.reduceEqDiff, Nat.reduceAdd, Nat.reduceMul, Nat.reduceLeDiff, Nat.reduceLT, Nat.reduceBEq, reduceCtorEq] | refine CallRG_no ?_ | refine CondR_of (fun hb => ?_) (fun hb => ?_) | (refine And.intro ?_ ?_; focus ((try with_reducible refine GIm_of ?_); first | (with_reducible rfl) | ((with_reducible first | refine rng_of ?_ | refine ordOK_of ?_ | refine chk_of ?_); kernel_rfl) | (intros; omega) | (intro q p; rw [q, p]; rfl) | (intro q; rw [q]; rfl) | (intro q; simp only [Bool.and_eq_true, decide_eq_true_eq, beq_iff_eq] at q; omega) | (intros; simp [List.range, List.range.loop]; done))) | refine And.intro (fun hg => ?_) (fun hg => ?_) | (with_reducible refine chk_of ?_; kernel_rfl) | fail)
theorem quorumR_ok (k : Int) : CallOK Tryz.prog 42 [.f (ai k)] (fun r o => r = [ri (quorumP k)] ∧ o = []) := by
  refine callOK_of TOKTy mixed (T := Ty) (n := 9) Tryz.func42 (c := Tryz.f42.body.getD .skip) rfl Tryz.results42 Tryz.ntmps42 Tryz.call42 ?_
  simp only [Tryz.f42, Option.getD]
  have h20 : ∀ (a b : Option Value), (if (2 : Int) = 0 then a else b) = b := fun a b => if_neg (by decide)
  repeat' (first | (with_reducible first | refine SeqQ_normal _ _ ?_ | refine CondR_tt ?_ | refine CondR_ff ?_) | rw [awp_seq] | simp only [pkS, TyB, h20, pkY, Int.reduceEq, bne_self_eq_false, Int.reduceBEq, Int.reduceBNe, implies_true, forall_const, Nat.reduceSub, Nat.reduceEqDiff, Nat.reduceAdd, Nat.reduceMul, Nat.reduceLeDiff, Nat.reduceLT, Nat.reduceBEq, reduceCtorEq] | ((try refine CallRG_tt ?_); apply CallR_of; (solve | exact (some_ok k) | (refine CallOK.le (some_ok k) ?_; simp [argsLe, aLe, csLe, cLe]))) | (apply CallRG_of; (focus (intro _; (solve | exact (some_ok k) | (refine CallOK.le (some_ok k) ?_; simp [argsLe, aLe, csLe, cLe])))); (focus rfl)) | refine CallRG_no ?_ | refine CondR_of (fun hb => ?_) (fun hb => ?_) | (refine And.intro ?_ ?_; focus ((try with_reducible refine GIm_of ?_); first | (with_reducible rfl) | ((with_reducible first | refine rng_of ?_ | refine ordOK_of ?_ | refine chk_of ?_); kernel_rfl) | (intros; omega) | (intro q p; rw [q, p]; rfl) | (intro q; rw [q]; rfl) | (intro q; simp only [Bool.and_eq_true, decide_eq_true_eq, beq_iff_eq] at q; omega) | (intros; simp [List.range, List.range.loop]; done))) | refine And.intro (fun hg => ?_) (fun hg => ?_) | (with_reducible refine chk_of ?_; kernel_rfl) | fail)
  · simp only [Bool.not_eq_true', Bool.and_eq_false_iff, decide_eq_false_iff_not] at hb
    rw [quorumP, if_pos (by simp; omega)]
  · simp only [Bool.not_eq_false', Bool.and_eq_true, decide_eq_true_eq] at hb
    rw [quorumP, if_neg (by simp; omega)]
    have h1 : (k.tdiv 2) = k / 2 := Int.tdiv_eq_ediv_of_nonneg (by omega)
    rw [wrap64 (n := k.tdiv 2) (by omega) (by omega), wrap64 (by omega) (by omega)]
def newR (k : Int) : RLead := ⟨k, 0, 0, [], 0, [], ⟨0, 0⟩, 0⟩
theorem someQ {k : Int} : (decide (k ≥ 1) && decide (k ≤ 7)) = !(quorumP k == 0) := by
  unfold quorumP
  split
  · rename_i h
    simp at h ⊢
    omega
  · rename_i h
    simp at h
    have h1 : (k.tdiv 2) = k / 2 := Int.tdiv_eq_ediv_of_nonneg (by omega)
    have a : (decide (k ≥ 1) && decide (k ≤ 7)) = true := by simp; omega
    have b : (k / 2 + 1 == 0) = false := by simp; omega
    rw [h1, a, b]; rfl
theorem newR_ok (k : Int) (hk : quorumP k ≠ 0) : CallP Tryz.prog 6 [.f (ai k)] [] (newR k).ro := by
  have hq : (decide (k ≥ 1) && decide (k ≤ 7)) = true := by rw [someQ]; simpa using hk
  have hs := some_ok k
  rw [hq] at hs
  refine CallP.leR (rfs := []) (l := [.d (iD k), .d (iD 0), .d (iD 0), .d (.v (.slice none 0 0)), .d (iD 0), .d (.v (.slice none 0 0)), .d (iD 0), .d (iD 0), .d (iD 0)]) ?_ rfsB_refl (by simp [rosB, roB, newR])
  refine callP_of TOKTy mixed (T := Ty) (n := 9) Tryz.func6 (c := Tryz.f6.body.getD .skip) rfl Tryz.results6 Tryz.ntmps6 Tryz.call6 ?_
  simp only [Tryz.f6, Option.getD]
  repeat' (first | (with_reducible first | refine SeqQ_normal _ _ ?_ | refine CondR_tt ?_ | refine CondR_ff ?_) | rw [awp_seq] | simp only [pkS, TyB, EndP_normal, EndP_ret, closeP, closeP1, pkY, Int.reduceEq, bne_self_eq_false, Int.reduceBEq, Int.reduceBNe, implies_true, forall_const, Nat.reduceSub, Nat.reduceEqDiff, Nat.reduceAdd, Nat.reduceMul, Nat.reduceLeDiff, Nat.reduceLT, Nat.reduceBEq, reduceCtorEq] | ((try refine CallRG_tt ?_); apply CallR_of; (solve | exact (hs) | (refine CallOK.le (hs) ?_; simp [argsLe, aLe, csLe, cLe]))) | (apply CallRG_of; (focus (intro _; (solve | exact (hs) | (refine CallOK.le (hs) ?_; simp [argsLe, aLe, csLe, cLe])))); (focus rfl)) | refine CallRG_no ?_ | refine CondR_of (fun hb => ?_) (fun hb => ?_) | (refine And.intro ?_ ?_; focus ((try with_reducible refine GIm_of ?_); first | (with_reducible rfl) | ((with_reducible first | refine rng_of ?_ | refine ordOK_of ?_ | refine chk_of ?_); kernel_rfl) | (intros; omega) | (intro q p; rw [q, p]; rfl) | (intro q; rw [q]; rfl) | (intro q; simp only [Bool.and_eq_true, decide_eq_true_eq, beq_iff_eq] at q; omega) | (intros; simp [List.range, List.range.loop]; done))) | refine And.intro (fun hg => ?_) (fun hg => ?_) | (with_reducible refine chk_of ?_; kernel_rfl) | fail)
theorem newR_nil (k : Int) (hk : quorumP k = 0) : CallOK Tryz.prog 6 [.f (ai k)] (fun r o => r = [.one (.d (.v (.pointer none)))] ∧ o = []) := by
  have hq : (decide (k ≥ 1) && decide (k ≤ 7)) = false := by rw [someQ]; simpa using hk
  have hs := some_ok k
  rw [hq] at hs
  refine callOK_of TOKTy mixed (T := Ty) (n := 9) Tryz.func6 (c := Tryz.f6.body.getD .skip) rfl Tryz.results6 Tryz.ntmps6 Tryz.call6 ?_
  simp only [Tryz.f6, Option.getD]
  repeat' (first | (with_reducible first | refine SeqQ_normal _ _ ?_ | refine CondR_tt ?_ | refine CondR_ff ?_) | rw [awp_seq] | simp only [pkS, TyB, pkY, Int.reduceEq, bne_self_eq_false, Int.reduceBEq, Int.reduceBNe, implies_true, forall_const, Nat.reduceSub, Nat.reduceEqDiff, Nat.reduceAdd, Nat.reduceMul, Nat.reduceLeDiff, Nat.reduceLT, Nat.reduceBEq, reduceCtorEq] | ((try refine CallRG_tt ?_); apply CallR_of; (solve | exact (hs) | (refine CallOK.le (hs) ?_; simp [argsLe, aLe, csLe, cLe]))) | (apply CallRG_of; (focus (intro _; (solve | exact (hs) | (refine CallOK.le (hs) ?_; simp [argsLe, aLe, csLe, cLe])))); (focus rfl)) | refine CallRG_no ?_ | refine CondR_of (fun hb => ?_) (fun hb => ?_) | (refine And.intro ?_ ?_; focus ((try with_reducible refine GIm_of ?_); first | (with_reducible rfl) | ((with_reducible first | refine rng_of ?_ | refine ordOK_of ?_ | refine chk_of ?_); kernel_rfl) | (intros; omega) | (intro q p; rw [q, p]; rfl) | (intro q; rw [q]; rfl) | (intro q; simp only [Bool.and_eq_true, decide_eq_true_eq, beq_iff_eq] at q; omega) | (intros; simp [List.range, List.range.loop]; done))) | refine And.intro (fun hg => ?_) (fun hg => ?_) | (with_reducible refine chk_of ?_; kernel_rfl) | fail)
def stopR (L : RLead) : RLead := ⟨L.n, 0, L.view, [], 0, [], ⟨0, 0⟩, 0⟩
theorem stopR_ok (L : RLead) : CallOK Tryz.prog 18 [.obj L.ro] (fun r o => r = [] ∧ o = [(stopR L).ro]) := by
  refine CallOK.leR ?_
  refine callOK_of TOKTy mixed (T := Ty) (n := 13) Tryz.func18 (c := Tryz.f18.body.getD .skip) rfl Tryz.results18 Tryz.ntmps18 Tryz.call18 ?_
  simp only [Tryz.f18, Option.getD]
  repeat' (first | (with_reducible first | refine SeqQ_normal _ _ ?_ | refine CondR_tt ?_ | refine CondR_ff ?_) | rw [awp_seq] | simp only [pkS, TyB, pkY, Int.reduceEq, bne_self_eq_false, Int.reduceBEq, Int.reduceBNe, implies_true, forall_const, Nat.reduceSub, Nat.reduceEqDiff, Nat.reduceAdd, Nat.reduceMul, Nat.reduceLeDiff, Nat.reduceLT, Nat.reduceBEq, reduceCtorEq] | refine CallRG_no ?_ | refine CondR_of (fun hb => ?_) (fun hb => ?_) | (refine And.intro ?_ ?_; focus ((try with_reducible refine GIm_of ?_); first | (with_reducible rfl) | ((with_reducible first | refine rng_of ?_ | refine ordOK_of ?_ | refine chk_of ?_); kernel_rfl) | (intros; omega) | (intro q p; rw [q, p]; rfl) | (intro q; rw [q]; rfl) | (intro q; simp only [Bool.and_eq_true, decide_eq_true_eq, beq_iff_eq] at q; omega) | (intros; simp [List.range, List.range.loop]; done))) | refine And.intro (fun hg => ?_) (fun hg => ?_) | (with_reducible refine chk_of ?_; kernel_rfl) | fail)
  exact ⟨rfsB_refl, by simp [objsB, rosB, roB, stopR]⟩
def beginR (L : RLead) (v : Int) : RLead × Int := if (decide (v < 0) || decide (v > High)) = true then (L, 1) else (⟨L.n, 1, v, [], 0, [], ⟨0, 0⟩, 0⟩, 0)
theorem beginR_ok (L : RLead) (v : Int) : CallOK Tryz.prog 8 [.obj L.ro, .f (ai v)] (fun r o => r = [ri (beginR L v).2] ∧ o = [(beginR L v).1.ro]) := by
  refine CallOK.leR ?_
  have hh := high_ok v 0
  have hc : (decide (v ≥ 0) && decide (v ≤ High)) = !(decide (v < 0) || decide (v > High)) := by
    have hH : High = 2305843009213693952 := rfl
    rw [Bool.eq_iff_iff]
    simp [hH]
  rw [hc] at hh
  refine callOK_of TOKTy mixed (T := Ty) (n := 16) Tryz.func8 (c := Tryz.f8.body.getD .skip) rfl Tryz.results8 Tryz.ntmps8 Tryz.call8 ?_
  simp only [Tryz.f8, Option.getD]
  cases hb : (decide (v < 0) || decide (v > High))
  · rw [hb] at hh
    rw [beginR, if_neg (by simp [hb])]
    repeat' (first | (with_reducible first | refine SeqQ_normal _ _ ?_ | refine CondR_tt ?_ | refine CondR_ff ?_) | rw [awp_seq] | simp only [pkS, TyB, pkY, Int.reduceEq, bne_self_eq_false, Int.reduceBEq, Int.reduceBNe, implies_true, forall_const, Nat.reduceSub, Nat.reduceEqDiff, Nat.reduceAdd, Nat.reduceMul, Nat.reduceLeDiff, Nat.reduceLT, Nat.reduceBEq, reduceCtorEq] | ((try refine CallRG_tt ?_); apply CallR_of; (solve | exact (hh) | (refine CallOK.le (hh) ?_; simp [argsLe, aLe, csLe, cLe]))) | (apply CallRG_of; (focus (intro _; (solve | exact (hh) | (refine CallOK.le (hh) ?_; simp [argsLe, aLe, csLe, cLe])))); (focus rfl)) | refine CallRG_no ?_ | refine CondR_of (fun hb => ?_) (fun hb => ?_) | (refine And.intro ?_ ?_; focus ((try with_reducible refine GIm_of ?_); first | (with_reducible rfl) | ((with_reducible first | refine rng_of ?_ | refine ordOK_of ?_ | refine chk_of ?_); kernel_rfl) | (intros; omega) | (intro q p; rw [q, p]; rfl) | (intro q; rw [q]; rfl) | (intro q; simp only [Bool.and_eq_true, decide_eq_true_eq, beq_iff_eq] at q; omega) | (intros; simp [List.range, List.range.loop]; done))) | refine And.intro (fun hg => ?_) (fun hg => ?_) | (with_reducible refine chk_of ?_; kernel_rfl) | fail)
    exact ⟨rfsB_refl, by simp [objsB, rosB, roB]⟩
  · rw [hb] at hh
    rw [beginR, if_pos hb]
    repeat' (first | (with_reducible first | refine SeqQ_normal _ _ ?_ | refine CondR_tt ?_ | refine CondR_ff ?_) | rw [awp_seq] | simp only [pkS, TyB, pkY, Int.reduceEq, bne_self_eq_false, Int.reduceBEq, Int.reduceBNe, implies_true, forall_const, Nat.reduceSub, Nat.reduceEqDiff, Nat.reduceAdd, Nat.reduceMul, Nat.reduceLeDiff, Nat.reduceLT, Nat.reduceBEq, reduceCtorEq] | ((try refine CallRG_tt ?_); apply CallR_of; (solve | exact (hh) | (refine CallOK.le (hh) ?_; simp [argsLe, aLe, csLe, cLe]))) | (apply CallRG_of; (focus (intro _; (solve | exact (hh) | (refine CallOK.le (hh) ?_; simp [argsLe, aLe, csLe, cLe])))); (focus rfl)) | refine CallRG_no ?_ | refine CondR_of (fun hb => ?_) (fun hb => ?_) | (refine And.intro ?_ ?_; focus ((try with_reducible refine GIm_of ?_); first | (with_reducible rfl) | ((with_reducible first | refine rng_of ?_ | refine ordOK_of ?_ | refine chk_of ?_); kernel_rfl) | (intros; omega) | (intro q p; rw [q, p]; rfl) | (intro q; rw [q]; rfl) | (intro q; simp only [Bool.and_eq_true, decide_eq_true_eq, beq_iff_eq] at q; omega) | (intros; simp [List.range, List.range.loop]; done))) | refine And.intro (fun hg => ?_) (fun hg => ?_) | (with_reducible refine chk_of ?_; kernel_rfl) | fail)
    first | exact ⟨rfl, rfsB_refl, objsB_refl⟩ | exact ⟨rfsB_refl, objsB_refl⟩
def nextR (L : RLead) : Int := if L.phase = 2 then L.first + L.bs.length else 0
theorem nextR_ok (L : RLead) (hf : 0 ≤ L.first ∧ L.first < 2 ^ 62 ∧ L.bs.length < 2 ^ 30) : CallOK Tryz.prog 24 [.f L.at] (fun r o => r = [ri (nextR L)] ∧ o = []) := by
  refine callOK_of TOKTy mixed (T := Ty) (n := 18) Tryz.func24 (c := Tryz.f24.body.getD .skip) rfl Tryz.results24 Tryz.ntmps24 Tryz.call24 ?_
  simp only [Tryz.f24, Option.getD]
  have hw : IntKind.i64.wrap (L.first + (L.bs.length : Int)) = L.first + (L.bs.length : Int) := wrap64 (by omega) (by omega)
  repeat' (first | (with_reducible first | refine SeqQ_normal _ _ ?_ | refine CondR_tt ?_ | refine CondR_ff ?_) | rw [awp_seq] | simp only [pkS, TyB, hw, pkY, Int.reduceEq, bne_self_eq_false, Int.reduceBEq, Int.reduceBNe, implies_true, forall_const, Nat.reduceSub, Nat.reduceEqDiff, Nat.reduceAdd, Nat.reduceMul, Nat.reduceLeDiff, Nat.reduceLT, Nat.reduceBEq, reduceCtorEq] | refine CallRG_no ?_ | refine CondR_of (fun hb => ?_) (fun hb => ?_) | (refine And.intro ?_ ?_; focus ((try with_reducible refine GIm_of ?_); first | (with_reducible rfl) | ((with_reducible first | refine rng_of ?_ | refine ordOK_of ?_ | refine chk_of ?_); kernel_rfl) | (intros; omega) | (intro q p; rw [q, p]; rfl) | (intro q; rw [q]; rfl) | (intro q; simp only [Bool.and_eq_true, decide_eq_true_eq, beq_iff_eq] at q; omega) | (intros; simp [List.range, List.range.loop]; done))) | refine And.intro (fun hg => ?_) (fun hg => ?_) | (with_reducible refine chk_of ?_; kernel_rfl) | fail)
  · rw [nextR, if_neg (by simpa using hb)]
  · rw [nextR, if_pos (by simpa using hb)]
theorem lastR_ok (L : RLead) (h : L.phase ≠ 2 → L.tip = ⟨0, 0⟩ ∧ L.time = 0) : CallOK Tryz.prog 20 [.f L.at] (fun r o => r = [.agg [.d (iD L.tip.view), .d (iD L.tip.slot)], ri L.time] ∧ o = []) := by
  refine callOK_of TOKTy mixed (T := Ty) (n := 18) Tryz.func20 (c := Tryz.f20.body.getD .skip) rfl Tryz.results20 Tryz.ntmps20 Tryz.call20 ?_
  simp only [Tryz.f20, Option.getD]
  repeat' (first | (with_reducible first | refine SeqQ_normal _ _ ?_ | refine CondR_tt ?_ | refine CondR_ff ?_) | rw [awp_seq] | simp only [pkS, TyB, pkY, Int.reduceEq, bne_self_eq_false, Int.reduceBEq, Int.reduceBNe, implies_true, forall_const, Nat.reduceSub, Nat.reduceEqDiff, Nat.reduceAdd, Nat.reduceMul, Nat.reduceLeDiff, Nat.reduceLT, Nat.reduceBEq, reduceCtorEq] | refine CallRG_no ?_ | refine CondR_of (fun hb => ?_) (fun hb => ?_) | (refine And.intro ?_ ?_; focus ((try with_reducible refine GIm_of ?_); first | (with_reducible rfl) | ((with_reducible first | refine rng_of ?_ | refine ordOK_of ?_ | refine chk_of ?_); kernel_rfl) | (intros; omega) | (intro q p; rw [q, p]; rfl) | (intro q; rw [q]; rfl) | (intro q; simp only [Bool.and_eq_true, decide_eq_true_eq, beq_iff_eq] at q; omega) | (intros; simp [List.range, List.range.loop]; done))) | refine And.intro (fun hg => ?_) (fun hg => ?_) | (with_reducible refine chk_of ?_; kernel_rfl) | fail)
  obtain ⟨h1, h2⟩ := h (by simpa using hb)
  rw [h1, h2]
theorem heardR_ok (L : RLead) (hL : L.ps.length < 2 ^ 30) : CallOK Tryz.prog 27 [.f L.at] (fun r o => r = [rowI (L.ps.map Prom.src)] ∧ o = []) := by
  refine callOK_of TOKTy mixed (T := Ty) (n := 26) Tryz.func27 (c := Tryz.f27.body.getD .skip) rfl Tryz.results27 Tryz.ntmps27 Tryz.call27 ?_
  simp only [Tryz.f27, Option.getD]
  repeat' (first | (with_reducible first | refine SeqQ_normal _ _ ?_ | refine CondR_tt ?_ | refine CondR_ff ?_) | rw [awp_seq] | simp only [pkS, TyB, pkY, Int.reduceEq, bne_self_eq_false, Int.reduceBEq, Int.reduceBNe, implies_true, forall_const, Nat.reduceSub, Nat.reduceEqDiff, Nat.reduceAdd, Nat.reduceMul, Nat.reduceLeDiff, Nat.reduceLT, Nat.reduceBEq, reduceCtorEq] | refine CallRG_no ?_ | refine CondR_of (fun hb => ?_) (fun hb => ?_) | (refine And.intro ?_ ?_; focus ((try with_reducible refine GIm_of ?_); first | (with_reducible rfl) | ((with_reducible first | refine rng_of ?_ | refine ordOK_of ?_ | refine chk_of ?_); kernel_rfl) | (intros; omega) | (intro q p; rw [q, p]; rfl) | (intro q; rw [q]; rfl) | (intro q; simp only [Bool.and_eq_true, decide_eq_true_eq, beq_iff_eq] at q; omega) | (intros; simp [List.range, List.range.loop]; done))) | refine And.intro (fun hg => ?_) (fun hg => ?_) | (with_reducible refine chk_of ?_; kernel_rfl) | fail)
  refine LoopR_fn (τ := Nat × List Int) (fun t => ⟨[L.at, dd, dd, .one (.own ⟨3, 1, 1⟩ 0 t.2.length), ai t.1, dd, dd, dd, dd, dd, dd, dd, dd, dd, dd, dd, dd, dd, dd, dd, dd, dd, dd, dd, dd, dd], [(3, { next := 2, l := [none, some { e := 1, var := false, fz := false, sz := 1, cells := (Go.Pk.intsE t.2).map C.d }] }), (23, ⟨2, []⟩), (24, ⟨2, []⟩)]⟩)
    (fun t => t.1 ≤ L.ps.length ∧ t.2.length = t.1) (fun t => t.2 ++ (L.ps.drop t.1).map Prom.src) (fun t => L.ps.length - t.1) (0, [])
    ((Gh.nil (i := 3) (s := 3) (sz := 1) rfl).trans (Gh.canon [3] [23, 24] [] (by simp only [fgc_elt, fgc_dead, fgc_dv, fgc_lent, fgc_nil, fgc_ptr, fgc_own, List.set_cons_zero, List.set_cons_succ, and_true, true_and, Int.natCast_zero, Int.cast_ofNat_Int, D.v.injEq, Value.int.injEq]; try (repeat' (first | rfl | omega | with_reducible apply And.intro))) rfl rfl)) ⟨Nat.zero_le _, rfl⟩ ?_
  intro ⟨i, acc⟩ ⟨hi0, ha⟩ hF K hK
  simp only [List.drop_zero, List.nil_append] at hi0 ha hF hK ⊢
  repeat (first | with_reducible refine SeqQ_normal _ _ ?_ | with_reducible refine And.imp_right (SeqQ_normal _ _) ?_ | with_reducible refine And.imp_right (And.imp_right (SeqQ_normal _ _)) ?_ | with_reducible refine And.imp_right (And.imp_right (And.imp_right (SeqQ_normal _ _))) ?_ | rw [awp_seq] | simp only [pkS, TyB,  implies_true, forall_const, Nat.reduceSub, Nat.reduceEqDiff, Nat.reduceAdd, Nat.reduceMul, Nat.reduceLeDiff, Nat.reduceLT, Nat.reduceBEq, reduceCtorEq])
  refine CondR_of (fun hlt => ?_) (fun hge => ?_)
  · have hi : i < L.ps.length := by simpa using hlt
    have hat := promises_at hi
    simp only [List.cons_append, List.nil_append] at hat
    have hw := i64_succ hi (by omega)
    repeat' (first | (with_reducible first | refine SeqQ_normal _ _ ?_ | refine CondR_tt ?_ | refine CondR_ff ?_) | rw [awp_seq] | simp only [pkS, TyB, hat, promises_len, pkY, Int.reduceEq, bne_self_eq_false, Int.reduceBEq, Int.reduceBNe, implies_true, forall_const, Nat.reduceSub, Nat.reduceEqDiff, Nat.reduceAdd, Nat.reduceMul, Nat.reduceLeDiff, Nat.reduceLT, Nat.reduceBEq, reduceCtorEq] | refine CallRG_no ?_ | refine CondR_of (fun hb => ?_) (fun hb => ?_) | (refine And.intro ?_ ?_; focus ((try with_reducible refine GIm_of ?_); first | (with_reducible rfl) | ((with_reducible first | refine rng_of ?_ | refine ordOK_of ?_ | refine chk_of ?_); kernel_rfl) | (intros; omega) | (intro q p; rw [q, p]; rfl) | (intro q; rw [q]; rfl) | (intro q; simp only [Bool.and_eq_true, decide_eq_true_eq, beq_iff_eq] at q; omega) | (intros; simp [List.range, List.range.loop]; done))) | refine And.intro (fun hg => ?_) (fun hg => ?_) | (with_reducible refine chk_of ?_; kernel_rfl) | fail)
    refine hK _ (i + 1, acc ++ [L.ps[i].src]) (Gh.canon [3] [] [] (by simp only [fgc_elt, hw, List.length_append, List.length_singleton, fgc_dead, fgc_dv, fgc_lent, fgc_nil, fgc_ptr, fgc_own, List.set_cons_zero, List.set_cons_succ, and_true, true_and, Int.natCast_zero, Int.cast_ofNat_Int, D.v.injEq, Value.int.injEq]; try (repeat' (first | rfl | omega | with_reducible apply And.intro))) rfl (by simp only [List.length_append, List.length_singleton]; rw [intsE_snoc]; rfl)) ⟨hi, by simp only [List.length_append, List.length_singleton]; omega⟩ ?_ (by simp only; omega)
    simp only
    rw [List.drop_eq_getElem_cons hi, List.map_cons, List.append_assoc, List.singleton_append]
  · have hi : i = L.ps.length := by
      have : ¬ (i : Int) < L.ps.length := by simpa using hge
      omega
    rw [hi, List.drop_length, List.map_nil, List.append_nil] at hF
    rw [← hF]
    repeat' (first | (with_reducible first | refine SeqQ_normal _ _ ?_ | refine CondR_tt ?_ | refine CondR_ff ?_) | rw [awp_seq] | simp only [pkS, TyB, pkY, Int.reduceEq, bne_self_eq_false, Int.reduceBEq, Int.reduceBNe, implies_true, forall_const, Nat.reduceSub, Nat.reduceEqDiff, Nat.reduceAdd, Nat.reduceMul, Nat.reduceLeDiff, Nat.reduceLT, Nat.reduceBEq, reduceCtorEq] | refine CallRG_no ?_ | refine CondR_of (fun hb => ?_) (fun hb => ?_) | (refine And.intro ?_ ?_; focus ((try with_reducible refine GIm_of ?_); first | (with_reducible rfl) | ((with_reducible first | refine rng_of ?_ | refine ordOK_of ?_ | refine chk_of ?_); kernel_rfl) | (intros; omega) | (intro q p; rw [q, p]; rfl) | (intro q; rw [q]; rfl) | (intro q; simp only [Bool.and_eq_true, decide_eq_true_eq, beq_iff_eq] at q; omega) | (intros; simp [List.range, List.range.loop]; done))) | refine And.intro (fun hg => ?_) (fun hg => ?_) | (with_reducible refine chk_of ?_; kernel_rfl) | fail)
theorem sameInts_ok (l : List Int) (hl : l.length < 2 ^ 42) : CallOK Tryz.prog 25 [.f (al l.length (Go.Pk.intsE l)), .f (al l.length (Go.Pk.intsE l))] (fun r o => r = [rb true] ∧ o = []) := by
  refine callOK_of TOKTy mixed (T := Ty) (n := 26) Tryz.func25 (c := Tryz.f25.body.getD .skip) rfl Tryz.results25 Tryz.ntmps25 Tryz.call25 ?_
  simp only [Tryz.f25, Option.getD]
  repeat' (first | (with_reducible first | refine SeqQ_normal _ _ ?_ | refine CondR_tt ?_ | refine CondR_ff ?_) | rw [awp_seq] | simp only [pkS, TyB, bne_self_eq_false, pkY, Int.reduceEq, bne_self_eq_false, Int.reduceBEq, Int.reduceBNe, implies_true, forall_const, Nat.reduceSub, Nat.reduceEqDiff, Nat.reduceAdd, Nat.reduceMul, Nat.reduceLeDiff, Nat.reduceLT, Nat.reduceBEq, reduceCtorEq] | refine CallRG_no ?_ | refine CondR_of (fun hb => ?_) (fun hb => ?_) | (refine And.intro ?_ ?_; focus ((try with_reducible refine GIm_of ?_); first | (with_reducible rfl) | ((with_reducible first | refine rng_of ?_ | refine ordOK_of ?_ | refine chk_of ?_); kernel_rfl) | (intros; omega) | (intro q p; rw [q, p]; rfl) | (intro q; rw [q]; rfl) | (intro q; simp only [Bool.and_eq_true, decide_eq_true_eq, beq_iff_eq] at q; omega) | (intros; simp [List.range, List.range.loop]; done))) | refine And.intro (fun hg => ?_) (fun hg => ?_) | (with_reducible refine chk_of ?_; kernel_rfl) | fail)
  refine LoopR_fn (τ := Nat) (fun t => ⟨[al l.length (Go.Pk.intsE l), al l.length (Go.Pk.intsE l), dd, dd, ab false, ai t, dd, dd, dd, dd, dd, dd, dd, dd, dd, dd, dd, dd, dd, dd, dd, dd, dd, dd, dd, dd], []⟩)
    (fun t => t ≤ l.length) (fun t => ()) (fun t => l.length - t) 0 (Gh.fgt ?_) (Nat.zero_le _) ?_
  · simp only [fgt_dead, fgt_same, fgt_nil, Int.natCast_zero]
  intro i hi0 hF K hK
  repeat (first | with_reducible refine SeqQ_normal _ _ ?_ | with_reducible refine And.imp_right (SeqQ_normal _ _) ?_ | with_reducible refine And.imp_right (And.imp_right (SeqQ_normal _ _)) ?_ | with_reducible refine And.imp_right (And.imp_right (And.imp_right (SeqQ_normal _ _))) ?_ | rw [awp_seq] | simp only [pkS, TyB,  implies_true, forall_const, Nat.reduceSub, Nat.reduceEqDiff, Nat.reduceAdd, Nat.reduceMul, Nat.reduceLeDiff, Nat.reduceLT, Nat.reduceBEq, reduceCtorEq])
  refine CondR_of (fun hlt => ?_) (fun hge => ?_)
  · have hi : i < l.length := by simpa using hlt
    have hat := ints_at1 hi
    simp only [List.cons_append, List.nil_append] at hat
    repeat' (first | (with_reducible first | refine SeqQ_normal _ _ ?_ | refine CondR_tt ?_ | refine CondR_ff ?_) | rw [awp_seq] | simp only [pkS, TyB, ints_len1, hat, bne_self_eq_false, pkY, Int.reduceEq, bne_self_eq_false, Int.reduceBEq, Int.reduceBNe, implies_true, forall_const, Nat.reduceSub, Nat.reduceEqDiff, Nat.reduceAdd, Nat.reduceMul, Nat.reduceLeDiff, Nat.reduceLT, Nat.reduceBEq, reduceCtorEq] | refine CallRG_no ?_ | refine CondR_of (fun hb => ?_) (fun hb => ?_) | (refine And.intro ?_ ?_; focus ((try with_reducible refine GIm_of ?_); first | (with_reducible rfl) | ((with_reducible first | refine rng_of ?_ | refine ordOK_of ?_ | refine chk_of ?_); kernel_rfl) | (intros; omega) | (intro q p; rw [q, p]; rfl) | (intro q; rw [q]; rfl) | (intro q; simp only [Bool.and_eq_true, decide_eq_true_eq, beq_iff_eq] at q; omega) | (intros; simp [List.range, List.range.loop]; done))) | refine And.intro (fun hg => ?_) (fun hg => ?_) | (with_reducible refine chk_of ?_; kernel_rfl) | fail)
    refine hK _ (i + 1) (Gh.fgt ?_) hi rfl (by omega)
    simp only [i64_succ hi (by omega), fgt_dead, fgt_same, fgt_nil]
  · repeat' (first | (with_reducible first | refine SeqQ_normal _ _ ?_ | refine CondR_tt ?_ | refine CondR_ff ?_) | rw [awp_seq] | simp only [pkS, TyB, pkY, Int.reduceEq, bne_self_eq_false, Int.reduceBEq, Int.reduceBNe, implies_true, forall_const, Nat.reduceSub, Nat.reduceEqDiff, Nat.reduceAdd, Nat.reduceMul, Nat.reduceLeDiff, Nat.reduceLT, Nat.reduceBEq, reduceCtorEq] | refine CallRG_no ?_ | refine CondR_of (fun hb => ?_) (fun hb => ?_) | (refine And.intro ?_ ?_; focus ((try with_reducible refine GIm_of ?_); first | (with_reducible rfl) | ((with_reducible first | refine rng_of ?_ | refine ordOK_of ?_ | refine chk_of ?_); kernel_rfl) | (intros; omega) | (intro q p; rw [q, p]; rfl) | (intro q; rw [q]; rfl) | (intro q; simp only [Bool.and_eq_true, decide_eq_true_eq, beq_iff_eq] at q; omega) | (intros; simp [List.range, List.range.loop]; done))) | refine And.intro (fun hg => ?_) (fun hg => ?_) | (with_reducible refine chk_of ?_; kernel_rfl) | fail)
theorem slotsR_ok (L : RLead) (d : Int) (hf : 0 ≤ L.first ∧ L.first < 2 ^ 62 ∧ L.bs.length < 2 ^ 30) (hr : ∀ b ∈ L.bs, b.reqs.length < 2 ^ 30) :
    CallOK Tryz.prog 30 [.f L.at, .f (ai d)] (fun r o => r = [rowV (if L.phase = 2 then (voteOf L.view L.first 0 L.bs).filter (slotsF d) else [])] ∧ o = []) := by
  refine callOK_of TOKTy mixed (T := Ty) (n := 56) Tryz.func30 (c := Tryz.f30.body.getD .skip) rfl Tryz.results30 Tryz.ntmps30 Tryz.call30 ?_
  simp only [Tryz.f30, Option.getD]
  cases hph : (L.phase == 2)
  · rw [if_neg (by simpa using hph)]
    repeat' (first | (with_reducible first | refine SeqQ_normal _ _ ?_ | refine CondR_tt ?_ | refine CondR_ff ?_) | rw [awp_seq] | simp only [pkS, TyB, hph, pkY, Int.reduceEq, bne_self_eq_false, Int.reduceBEq, Int.reduceBNe, implies_true, forall_const, Nat.reduceSub, Nat.reduceEqDiff, Nat.reduceAdd, Nat.reduceMul, Nat.reduceLeDiff, Nat.reduceLT, Nat.reduceBEq, reduceCtorEq] | refine CallRG_no ?_ | refine CondR_of (fun hb => ?_) (fun hb => ?_) | (refine And.intro ?_ ?_; focus ((try with_reducible refine GIm_of ?_); first | (with_reducible rfl) | ((with_reducible first | refine rng_of ?_ | refine ordOK_of ?_ | refine chk_of ?_); kernel_rfl) | (intros; omega) | (intro q p; rw [q, p]; rfl) | (intro q; rw [q]; rfl) | (intro q; simp only [Bool.and_eq_true, decide_eq_true_eq, beq_iff_eq] at q; omega) | (intros; simp [List.range, List.range.loop]; done))) | refine And.intro (fun hg => ?_) (fun hg => ?_) | (with_reducible refine chk_of ?_; kernel_rfl) | fail)
    refine LoopR_fn (τ := Nat × List Vote) (fun t => ⟨[L.at, ai d, dd, dd, dd, .one (.own ⟨5, 1, 1⟩ 0 t.2.length), ai t.1, dd, dd, dd, dd, dd, dd, dd, dd, dd, dd, dd, dd, dd, dd, dd, dd, dd, dd, dd, dd, dd, dd, dd, dd, dd, dd, dd, dd, dd, dd, dd, dd, dd, dd, dd, dd, dd, dd, dd, dd, dd, dd, dd, dd, dd, dd, dd, dd, dd], [(5, { next := 2, l := [none, some { e := 1, var := false, fz := false, sz := 8, cells := (votesE t.2).map C.d }] }), (53, ⟨2, []⟩), (54, ⟨2, []⟩)]⟩)
      (fun t => t.1 = 0 ∧ t.2 = []) (fun t => t.2) (fun t => 0) (0, [])
      ((Gh.nil (i := 5) (s := 5) (sz := 8) rfl).trans (Gh.canon [5] [53, 54] [] (by simp only [fgc_elt, fgc_dead, fgc_dv, fgc_lent, fgc_nil, fgc_ptr, fgc_own, List.set_cons_zero, List.set_cons_succ, and_true, true_and, Int.natCast_zero, Int.cast_ofNat_Int, D.v.injEq, Value.int.injEq]; try (repeat' (first | rfl | omega | with_reducible apply And.intro))) rfl rfl)) ⟨rfl, rfl⟩ ?_
    intro ⟨i, acc⟩ ⟨hi0, ha⟩ hF K hK
    simp only at hi0 ha hF hK ⊢
    subst hi0 ha
    repeat (first | with_reducible refine SeqQ_normal _ _ ?_ | with_reducible refine And.imp_right (SeqQ_normal _ _) ?_ | with_reducible refine And.imp_right (And.imp_right (SeqQ_normal _ _)) ?_ | with_reducible refine And.imp_right (And.imp_right (And.imp_right (SeqQ_normal _ _))) ?_ | rw [awp_seq] | simp only [pkS, TyB, hph, implies_true, forall_const, Nat.reduceSub, Nat.reduceEqDiff, Nat.reduceAdd, Nat.reduceMul, Nat.reduceLeDiff, Nat.reduceLT, Nat.reduceBEq, reduceCtorEq])
    refine CondR_of (fun hlt => ?_) (fun hge => ?_)
    · simp at hlt
    · repeat' (first | (with_reducible first | refine SeqQ_normal _ _ ?_ | refine CondR_tt ?_ | refine CondR_ff ?_) | rw [awp_seq] | simp only [pkS, TyB, pkY, Int.reduceEq, bne_self_eq_false, Int.reduceBEq, Int.reduceBNe, implies_true, forall_const, Nat.reduceSub, Nat.reduceEqDiff, Nat.reduceAdd, Nat.reduceMul, Nat.reduceLeDiff, Nat.reduceLT, Nat.reduceBEq, reduceCtorEq] | refine CallRG_no ?_ | refine CondR_of (fun hb => ?_) (fun hb => ?_) | (refine And.intro ?_ ?_; focus ((try with_reducible refine GIm_of ?_); first | (with_reducible rfl) | ((with_reducible first | refine rng_of ?_ | refine ordOK_of ?_ | refine chk_of ?_); kernel_rfl) | (intros; omega) | (intro q p; rw [q, p]; rfl) | (intro q; rw [q]; rfl) | (intro q; simp only [Bool.and_eq_true, decide_eq_true_eq, beq_iff_eq] at q; omega) | (intros; simp [List.range, List.range.loop]; done))) | refine And.intro (fun hg => ?_) (fun hg => ?_) | (with_reducible refine chk_of ?_; kernel_rfl) | fail)
      rfl
  · have hp2 : L.phase = 2 := by simpa using hph
    rw [if_pos hp2]
    repeat' (first | (with_reducible first | refine SeqQ_normal _ _ ?_ | refine CondR_tt ?_ | refine CondR_ff ?_) | rw [awp_seq] | simp only [pkS, TyB, hph, pkY, Int.reduceEq, bne_self_eq_false, Int.reduceBEq, Int.reduceBNe, implies_true, forall_const, Nat.reduceSub, Nat.reduceEqDiff, Nat.reduceAdd, Nat.reduceMul, Nat.reduceLeDiff, Nat.reduceLT, Nat.reduceBEq, reduceCtorEq] | refine CallRG_no ?_ | refine CondR_of (fun hb => ?_) (fun hb => ?_) | (refine And.intro ?_ ?_; focus ((try with_reducible refine GIm_of ?_); first | (with_reducible rfl) | ((with_reducible first | refine rng_of ?_ | refine ordOK_of ?_ | refine chk_of ?_); kernel_rfl) | (intros; omega) | (intro q p; rw [q, p]; rfl) | (intro q; rw [q]; rfl) | (intro q; simp only [Bool.and_eq_true, decide_eq_true_eq, beq_iff_eq] at q; omega) | (intros; simp [List.range, List.range.loop]; done))) | refine And.intro (fun hg => ?_) (fun hg => ?_) | (with_reducible refine chk_of ?_; kernel_rfl) | fail)
    refine LoopR_fn (τ := Nat × List Vote) (fun t => ⟨[L.at, ai d, dd, dd, dd, .one (.own ⟨5, 1, 1⟩ 0 t.2.length), ai t.1, dd, dd, dd, dd, dd, dd, dd, dd, dd, dd, dd, dd, dd, dd, dd, dd, dd, dd, dd, dd, dd, dd, dd, dd, dd, dd, dd, dd, dd, dd, dd, dd, dd, dd, dd, dd, dd, dd, dd, dd, dd, dd, dd, dd, dd, dd, dd, dd, dd], [(5, { next := 2, l := [none, some { e := 1, var := false, fz := false, sz := 8, cells := (votesE t.2).map C.d }] }), (53, ⟨2, []⟩), (54, ⟨2, []⟩)]⟩)
      (fun t => t.1 ≤ L.bs.length ∧ t.2.length ≤ t.1) (fun t => t.2 ++ (voteOf L.view L.first t.1 (L.bs.drop t.1)).filter (slotsF d)) (fun t => L.bs.length - t.1) (0, [])
      ((Gh.nil (i := 5) (s := 5) (sz := 8) rfl).trans (Gh.canon [5] [53, 54] [] (by simp only [fgc_elt, fgc_dead, fgc_dv, fgc_lent, fgc_nil, fgc_ptr, fgc_own, List.set_cons_zero, List.set_cons_succ, and_true, true_and, Int.natCast_zero, Int.cast_ofNat_Int, D.v.injEq, Value.int.injEq]; try (repeat' (first | rfl | omega | with_reducible apply And.intro))) rfl rfl)) ⟨Nat.zero_le _, Nat.zero_le _⟩ ?_
    intro ⟨i, acc⟩ ⟨hi0, ha⟩ hF K hK
    simp only [List.drop_zero, List.nil_append] at hi0 ha hF hK ⊢
    repeat (first | with_reducible refine SeqQ_normal _ _ ?_ | with_reducible refine And.imp_right (SeqQ_normal _ _) ?_ | with_reducible refine And.imp_right (And.imp_right (SeqQ_normal _ _)) ?_ | with_reducible refine And.imp_right (And.imp_right (And.imp_right (SeqQ_normal _ _))) ?_ | rw [awp_seq] | simp only [pkS, TyB, hph, Bool.and_true, implies_true, forall_const, Nat.reduceSub, Nat.reduceEqDiff, Nat.reduceAdd, Nat.reduceMul, Nat.reduceLeDiff, Nat.reduceLT, Nat.reduceBEq, reduceCtorEq])
    refine CondR_of (fun hlt => ?_) (fun hge => ?_)
    · have hi : i < L.bs.length := by simpa using hlt
      have hat := batches_at hi
      simp only [List.cons_append, List.nil_append] at hat
      have hw := i64_succ hi (by omega)
      have hw1 : IntKind.i64.wrap (L.first + (i : Int)) = L.first + (i : Int) := wrap64 (by omega) (by omega)
      have hw3 : IntKind.i64.wrap (L.first + (i : Int) - 3) = L.first + (i : Int) - 3 := wrap64 (by omega) (by omega)
      have hrb := hr _ (List.getElem_mem hi)
      have hFs : (voteOf L.view L.first i (L.bs.drop i)).filter (slotsF d) = if slotsF d ⟨L.first + (i : Int), L.view, L.bs[i]⟩ = true then ⟨L.first + (i : Int), L.view, L.bs[i]⟩ :: (voteOf L.view L.first (i + 1) (L.bs.drop (i + 1))).filter (slotsF d) else (voteOf L.view L.first (i + 1) (L.bs.drop (i + 1))).filter (slotsF d) := by
        rw [List.drop_eq_getElem_cons hi, voteOf, List.filter_cons]
      cases hc : slotsF d ⟨L.first + (i : Int), L.view, L.bs[i]⟩
      · rw [hc, if_neg (by simp)] at hFs
        have hc' : (decide (L.first + (i : Int) > d) && decide (L.first + (i : Int) - 3 ≤ d)) = false := hc
        repeat' (first | (with_reducible first | refine SeqQ_normal _ _ ?_ | refine CondR_tt ?_ | refine CondR_ff ?_) | rw [awp_seq] | simp only [pkS, TyB, hat, batches_len, hw1, hw3, hc', pkY, Int.reduceEq, bne_self_eq_false, Int.reduceBEq, Int.reduceBNe, implies_true, forall_const, Nat.reduceSub, Nat.reduceEqDiff, Nat.reduceAdd, Nat.reduceMul, Nat.reduceLeDiff, Nat.reduceLT, Nat.reduceBEq, reduceCtorEq] | refine CallRG_no ?_ | refine CondR_of (fun hb => ?_) (fun hb => ?_) | (refine And.intro ?_ ?_; focus ((try with_reducible refine GIm_of ?_); first | (with_reducible rfl) | ((with_reducible first | refine rng_of ?_ | refine ordOK_of ?_ | refine chk_of ?_); kernel_rfl) | (intros; omega) | (intro q p; rw [q, p]; rfl) | (intro q; rw [q]; rfl) | (intro q; simp only [Bool.and_eq_true, decide_eq_true_eq, beq_iff_eq] at q; omega) | (intros; simp [List.range, List.range.loop]; done))) | refine And.intro (fun hg => ?_) (fun hg => ?_) | (with_reducible refine chk_of ?_; kernel_rfl) | fail)
        refine hK _ (i + 1, acc) (Gh.canon [5] [] [] (by simp only [fgc_elt, hw, fgc_dead, fgc_dv, fgc_lent, fgc_nil, fgc_ptr, fgc_own, List.set_cons_zero, List.set_cons_succ, and_true, true_and, Int.natCast_zero, Int.cast_ofNat_Int, D.v.injEq, Value.int.injEq]; try (repeat' (first | rfl | omega | with_reducible apply And.intro))) rfl rfl) ⟨hi, by simp only; omega⟩ (by simp only; rw [hFs]) (by simp only; omega)
      · rw [hc, if_pos rfl] at hFs
        have hc' : (decide (L.first + (i : Int) > d) && decide (L.first + (i : Int) - 3 ≤ d)) = true := hc
        repeat' (first | (with_reducible first | refine SeqQ_normal _ _ ?_ | refine CondR_tt ?_ | refine CondR_ff ?_) | rw [awp_seq] | simp only [pkS, TyB, hat, batches_len, hw1, hw3, hc', pkY, Int.reduceEq, bne_self_eq_false, Int.reduceBEq, Int.reduceBNe, implies_true, forall_const, Nat.reduceSub, Nat.reduceEqDiff, Nat.reduceAdd, Nat.reduceMul, Nat.reduceLeDiff, Nat.reduceLT, Nat.reduceBEq, reduceCtorEq] | refine CallRG_no ?_ | refine CondR_of (fun hb => ?_) (fun hb => ?_) | (refine And.intro ?_ ?_; focus ((try with_reducible refine GIm_of ?_); first | (with_reducible rfl) | ((with_reducible first | refine rng_of ?_ | refine ordOK_of ?_ | refine chk_of ?_); kernel_rfl) | (intros; omega) | (intro q p; rw [q, p]; rfl) | (intro q; rw [q]; rfl) | (intro q; simp only [Bool.and_eq_true, decide_eq_true_eq, beq_iff_eq] at q; omega) | (intros; simp [List.range, List.range.loop]; done))) | refine And.intro (fun hg => ?_) (fun hg => ?_) | (with_reducible refine chk_of ?_; kernel_rfl) | fail)
        refine hK _ (i + 1, acc ++ [⟨L.first + (i : Int), L.view, L.bs[i]⟩]) (Gh.canon [5] [] [] (by simp only [fgc_elt, hw, List.length_append, List.length_singleton, fgc_dead, fgc_dv, fgc_lent, fgc_nil, fgc_ptr, fgc_own, List.set_cons_zero, List.set_cons_succ, and_true, true_and, Int.natCast_zero, Int.cast_ofNat_Int, D.v.injEq, Value.int.injEq]; try (repeat' (first | rfl | omega | with_reducible apply And.intro))) rfl (by simp only [List.length_append, List.length_singleton]; rw [votesE_snoc]; rfl)) ⟨hi, by simp only [List.length_append, List.length_singleton]; omega⟩ (by simp only [List.append_assoc, List.singleton_append]; rw [hFs]) (by simp only; omega)
    · have hi : i = L.bs.length := by
        have : ¬ (i : Int) < L.bs.length := by simpa using hge
        omega
      rw [hi, List.drop_length, voteOf, List.filter_nil, List.append_nil] at hF
      rw [← hF]
      repeat' (first | (with_reducible first | refine SeqQ_normal _ _ ?_ | refine CondR_tt ?_ | refine CondR_ff ?_) | rw [awp_seq] | simp only [pkS, TyB, pkY, Int.reduceEq, bne_self_eq_false, Int.reduceBEq, Int.reduceBNe, implies_true, forall_const, Nat.reduceSub, Nat.reduceEqDiff, Nat.reduceAdd, Nat.reduceMul, Nat.reduceLeDiff, Nat.reduceLT, Nat.reduceBEq, reduceCtorEq] | refine CallRG_no ?_ | refine CondR_of (fun hb => ?_) (fun hb => ?_) | (refine And.intro ?_ ?_; focus ((try with_reducible refine GIm_of ?_); first | (with_reducible rfl) | ((with_reducible first | refine rng_of ?_ | refine ordOK_of ?_ | refine chk_of ?_); kernel_rfl) | (intros; omega) | (intro q p; rw [q, p]; rfl) | (intro q; rw [q]; rfl) | (intro q; simp only [Bool.and_eq_true, decide_eq_true_eq, beq_iff_eq] at q; omega) | (intros; simp [List.range, List.range.loop]; done))) | refine And.intro (fun hg => ?_) (fun hg => ?_) | (with_reducible refine chk_of ?_; kernel_rfl) | fail)
def trimR (L : RLead) (d : Int) : RLead := if L.phase ≠ 2 then L else if d ≥ nextR L then stopR L else if d ≥ L.first then { L with bs := L.bs.drop (d + 1 - L.first).toNat, first := d + 1 } else L
theorem trimR_ok (L : RLead) (d : Int) (hf : 0 ≤ L.first ∧ L.first < 2 ^ 62 ∧ L.bs.length < 2 ^ 30) : CallOK Tryz.prog 16 [.obj L.ro, .f (ai d)] (fun r o => r = [] ∧ o = [(trimR L d).ro]) := by
  refine CallOK.leR ?_
  refine callOK_of TOKTy mixed (T := Ty) (n := 43) Tryz.func16 (c := Tryz.f16.body.getD .skip) rfl Tryz.results16 Tryz.ntmps16 Tryz.call16 ?_
  simp only [Tryz.f16, Option.getD]
  have hnx := nextR_ok L hf
  cases hph : (L.phase != 2)
  · have hp2 : L.phase = 2 := by simpa using hph
    cases hd : decide (d ≥ nextR L)
    · cases hd2 : decide (d ≥ L.first)
      · have ht : trimR L d = L := by rw [trimR, if_neg (by omega), if_neg (by simpa using hd), if_neg (by simpa using hd2)]
        rw [ht]
        repeat' (first | (with_reducible first | refine SeqQ_normal _ _ ?_ | refine CondR_tt ?_ | refine CondR_ff ?_) | rw [awp_seq] | simp only [pkS, TyB, hph, hd, hd2, pkY, Int.reduceEq, bne_self_eq_false, Int.reduceBEq, Int.reduceBNe, implies_true, forall_const, Nat.reduceSub, Nat.reduceEqDiff, Nat.reduceAdd, Nat.reduceMul, Nat.reduceLeDiff, Nat.reduceLT, Nat.reduceBEq, reduceCtorEq] | ((try refine CallRG_tt ?_); apply CallR_of; (solve | exact (hnx) | (refine CallOK.le (hnx) ?_; simp [argsLe, aLe, csLe, cLe]))) | (apply CallRG_of; (focus (intro _; (solve | exact (hnx) | (refine CallOK.le (hnx) ?_; simp [argsLe, aLe, csLe, cLe])))); (focus rfl)) | refine CallRG_no ?_ | refine CondR_of (fun hb => ?_) (fun hb => ?_) | (refine And.intro ?_ ?_; focus ((try with_reducible refine GIm_of ?_); first | (with_reducible rfl) | ((with_reducible first | refine rng_of ?_ | refine ordOK_of ?_ | refine chk_of ?_); kernel_rfl) | (intros; omega) | (intro q p; rw [q, p]; rfl) | (intro q; rw [q]; rfl) | (intro q; simp only [Bool.and_eq_true, decide_eq_true_eq, beq_iff_eq] at q; omega) | (intros; simp [List.range, List.range.loop]; done))) | refine And.intro (fun hg => ?_) (fun hg => ?_) | (with_reducible refine chk_of ?_; kernel_rfl) | fail)
        first | exact ⟨rfl, rfsB_refl, objsB_refl⟩ | exact ⟨rfsB_refl, objsB_refl⟩
      · have ht : trimR L d = { L with bs := L.bs.drop (d + 1 - L.first).toNat, first := d + 1 } := by rw [trimR, if_neg (by omega), if_neg (by simpa using hd), if_pos (by simpa using hd2)]
        rw [ht]
        have hnv : nextR L = L.first + L.bs.length := by rw [nextR, if_pos hp2]
        simp only [decide_eq_false_iff_not, decide_eq_true_eq] at hd hd2
        have hw1 : IntKind.i64.wrap (d + 1) = d + 1 := wrap64 (by omega) (by omega)
        have hw2 : IntKind.i64.wrap (d + 1 - L.first) = d + 1 - L.first := wrap64 (by omega) (by omega)
        have hdd : decide (d ≥ nextR L) = false := by simpa using hd
        have hdd2 : decide (d ≥ L.first) = true := by simpa using hd2
        obtain ⟨k, hk⟩ : ∃ k, k = (d + 1 - L.first).toNat := ⟨_, rfl⟩
        have hkl : k ≤ L.bs.length := by omega
        have hdl : (L.bs.drop k).length = L.bs.length - k := List.length_drop ..
        have htk : List.take ((L.bs.length - k) * 6) (List.drop (k * 6) (batchesE L.bs)) = batchesE (L.bs.drop k) := by
          rw [enc_dropN Batch.enc 6 (fun _ => rfl) hkl, ← hdl]; exact batches_take
        rw [← hk]
        have hbl : (batchesE (L.bs.drop k)).length = (L.bs.length - k) * 6 := by rw [batches_len, hdl]
        repeat' (first | (with_reducible first | refine stop_of 5 ?_ | refine stop_of1 5 ?_ | refine stop_of2 5 ?_) | (with_reducible first | refine SeqQ_normal _ _ ?_ | refine CondR_tt ?_ | refine CondR_ff ?_) | rw [awp_seq] | simp only [pkS, TyB, hph, hdd, hdd2, hw1, hw2, ← hk, htk, hbl, batches_len, pkY, Int.reduceEq, bne_self_eq_false, Int.reduceBEq, Int.reduceBNe, implies_true, forall_const, Nat.reduceSub, Nat.reduceEqDiff, Nat.reduceAdd, Nat.reduceMul, Nat.reduceLeDiff, Nat.reduceLT, Nat.reduceBEq, reduceCtorEq] | ((try refine CallRG_tt ?_); apply CallR_of; (solve | exact (hnx) | (refine CallOK.le (hnx) ?_; simp [argsLe, aLe, csLe, cLe]))) | (apply CallRG_of; (focus (intro _; (solve | exact (hnx) | (refine CallOK.le (hnx) ?_; simp [argsLe, aLe, csLe, cLe])))); (focus rfl)) | refine CallRG_no ?_ | refine CondR_of (fun hb => ?_) (fun hb => ?_) | (refine And.intro ?_ ?_; focus ((try with_reducible refine GIm_of ?_); first | (with_reducible rfl) | ((with_reducible first | refine rng_of ?_ | refine ordOK_of ?_ | refine chk_of ?_); kernel_rfl) | (intros; omega) | (intro q p; rw [q, p]; rfl) | (intro q; rw [q]; rfl) | (intro q; simp only [Bool.and_eq_true, decide_eq_true_eq, beq_iff_eq] at q; omega) | (intros; simp [List.range, List.range.loop]; done))) | refine And.intro (fun hg => ?_) (fun hg => ?_) | (with_reducible refine chk_of ?_; kernel_rfl) | fail)
        refine stop_go (SeqQ_gh (Gh.sealF 0 5 (.own ⟨0, 6, 1⟩ 0 (L.bs.length - k)) ?_) ?_)
        · simp only [pkS, TyB, sealFOK, pkX, ← hdl, implies_true, forall_const, Nat.reduceSub, Nat.reduceEqDiff, Nat.reduceAdd, Nat.reduceMul, Nat.reduceLeDiff, Nat.reduceLT, Nat.reduceBEq, reduceCtorEq]
        simp only [pkS, TyB, sealFR, pkX, ← hdl, implies_true, forall_const, Nat.reduceSub, Nat.reduceEqDiff, Nat.reduceAdd, Nat.reduceMul, Nat.reduceLeDiff, Nat.reduceLT, Nat.reduceBEq, reduceCtorEq]
        repeat' (first | (with_reducible first | refine SeqQ_normal _ _ ?_ | refine CondR_tt ?_ | refine CondR_ff ?_) | rw [awp_seq] | simp only [pkS, TyB, hw1, pkY, Int.reduceEq, bne_self_eq_false, Int.reduceBEq, Int.reduceBNe, implies_true, forall_const, Nat.reduceSub, Nat.reduceEqDiff, Nat.reduceAdd, Nat.reduceMul, Nat.reduceLeDiff, Nat.reduceLT, Nat.reduceBEq, reduceCtorEq] | refine CallRG_no ?_ | refine CondR_of (fun hb => ?_) (fun hb => ?_) | (refine And.intro ?_ ?_; focus ((try with_reducible refine GIm_of ?_); first | (with_reducible rfl) | ((with_reducible first | refine rng_of ?_ | refine ordOK_of ?_ | refine chk_of ?_); kernel_rfl) | (intros; omega) | (intro q p; rw [q, p]; rfl) | (intro q; rw [q]; rfl) | (intro q; simp only [Bool.and_eq_true, decide_eq_true_eq, beq_iff_eq] at q; omega) | (intros; simp [List.range, List.range.loop]; done))) | refine And.intro (fun hg => ?_) (fun hg => ?_) | (with_reducible refine chk_of ?_; kernel_rfl) | fail)
        exact ⟨rfsB_refl, objsB_refl⟩
    · have ht : trimR L d = stopR L := by rw [trimR, if_neg (by omega), if_pos (by simpa using hd)]
      rw [ht]
      repeat' (first | (with_reducible first | refine SeqQ_normal _ _ ?_ | refine CondR_tt ?_ | refine CondR_ff ?_) | rw [awp_seq] | simp only [pkS, TyB, hph, hd, pkY, Int.reduceEq, bne_self_eq_false, Int.reduceBEq, Int.reduceBNe, implies_true, forall_const, Nat.reduceSub, Nat.reduceEqDiff, Nat.reduceAdd, Nat.reduceMul, Nat.reduceLeDiff, Nat.reduceLT, Nat.reduceBEq, reduceCtorEq] | ((try refine CallRG_tt ?_); apply CallR_of; (solve | exact (hnx) | (refine CallOK.le (hnx) ?_; simp [argsLe, aLe, csLe, cLe]))) | (apply CallRG_of; (focus (intro _; (solve | exact (hnx) | (refine CallOK.le (hnx) ?_; simp [argsLe, aLe, csLe, cLe])))); (focus rfl)) | refine CallRG_no ?_ | refine CondR_of (fun hb => ?_) (fun hb => ?_) | (refine And.intro ?_ ?_; focus ((try with_reducible refine GIm_of ?_); first | (with_reducible rfl) | ((with_reducible first | refine rng_of ?_ | refine ordOK_of ?_ | refine chk_of ?_); kernel_rfl) | (intros; omega) | (intro q p; rw [q, p]; rfl) | (intro q; rw [q]; rfl) | (intro q; simp only [Bool.and_eq_true, decide_eq_true_eq, beq_iff_eq] at q; omega) | (intros; simp [List.range, List.range.loop]; done))) | refine And.intro (fun hg => ?_) (fun hg => ?_) | (with_reducible refine chk_of ?_; kernel_rfl) | fail)
      refine CallM_of (mv := ?mv1) (lent := ?le1) 0 ?ha1 (stopR_ok L) ?hb1 ?hc1
      case ha1 => (try simp only [pkS, TyB, toDs_map, implies_true, forall_const, Nat.reduceSub, Nat.reduceEqDiff, Nat.reduceAdd, Nat.reduceMul, Nat.reduceLeDiff, Nat.reduceLT, Nat.reduceBEq, reduceCtorEq]); exact rfl
      case hb1 => (try simp only [pkS, TyB, scM, implies_true, forall_const, Nat.reduceSub, Nat.reduceEqDiff, Nat.reduceAdd, Nat.reduceMul, Nat.reduceLeDiff, Nat.reduceLT, Nat.reduceBEq, reduceCtorEq]); repeat' (first | rfl | trivial | omega | with_reducible refine And.intro ?_ ?_)
      show aops _ _ _ _ _ _ _ _
      repeat' (first | (with_reducible first | refine SeqQ_normal _ _ ?_ | refine CondR_tt ?_ | refine CondR_ff ?_) | rw [awp_seq] | simp only [pkS, TyB, pkY, Int.reduceEq, bne_self_eq_false, Int.reduceBEq, Int.reduceBNe, implies_true, forall_const, Nat.reduceSub, Nat.reduceEqDiff, Nat.reduceAdd, Nat.reduceMul, Nat.reduceLeDiff, Nat.reduceLT, Nat.reduceBEq, reduceCtorEq] | refine CallRG_no ?_ | refine CondR_of (fun hb => ?_) (fun hb => ?_) | (refine And.intro ?_ ?_; focus ((try with_reducible refine GIm_of ?_); first | (with_reducible rfl) | ((with_reducible first | refine rng_of ?_ | refine ordOK_of ?_ | refine chk_of ?_); kernel_rfl) | (intros; omega) | (intro q p; rw [q, p]; rfl) | (intro q; rw [q]; rfl) | (intro q; simp only [Bool.and_eq_true, decide_eq_true_eq, beq_iff_eq] at q; omega) | (intros; simp [List.range, List.range.loop]; done))) | refine And.intro (fun hg => ?_) (fun hg => ?_) | (with_reducible refine chk_of ?_; kernel_rfl) | fail)
      first | exact ⟨rfl, rfsB_refl, objsB_refl⟩ | exact ⟨rfsB_refl, objsB_refl⟩
  · have ht : trimR L d = L := by rw [trimR, if_pos (by simpa using hph)]
    rw [ht]
    repeat' (first | (with_reducible first | refine SeqQ_normal _ _ ?_ | refine CondR_tt ?_ | refine CondR_ff ?_) | rw [awp_seq] | simp only [pkS, TyB, hph, pkY, Int.reduceEq, bne_self_eq_false, Int.reduceBEq, Int.reduceBNe, implies_true, forall_const, Nat.reduceSub, Nat.reduceEqDiff, Nat.reduceAdd, Nat.reduceMul, Nat.reduceLeDiff, Nat.reduceLT, Nat.reduceBEq, reduceCtorEq] | refine CallRG_no ?_ | refine CondR_of (fun hb => ?_) (fun hb => ?_) | (refine And.intro ?_ ?_; focus ((try with_reducible refine GIm_of ?_); first | (with_reducible rfl) | ((with_reducible first | refine rng_of ?_ | refine ordOK_of ?_ | refine chk_of ?_); kernel_rfl) | (intros; omega) | (intro q p; rw [q, p]; rfl) | (intro q; rw [q]; rfl) | (intro q; simp only [Bool.and_eq_true, decide_eq_true_eq, beq_iff_eq] at q; omega) | (intros; simp [List.range, List.range.loop]; done))) | refine And.intro (fun hg => ?_) (fun hg => ?_) | (with_reducible refine chk_of ?_; kernel_rfl) | fail)
    first | exact ⟨rfl, rfsB_refl, objsB_refl⟩ | exact ⟨rfsB_refl, objsB_refl⟩
def addR (L : RLead) (done time : Int) (rs : List Req) : RLead × Int × Int :=
  if (L.phase != 2) = true then (L, 0, 11) else if mayAdd done time rs = false then (L, 0, 1) else
  if (decide (nextR L > done + 3) || decide (nextR L > High)) = true then (L, 0, 5) else
  ({ L with bs := L.bs ++ [⟨false, L.view, L.tip, time, rs⟩], tip := ⟨L.view, nextR L⟩, time := max L.time time }, nextR L, 0)
theorem mayAdd_ref {done time : Int} {rs : List Req} : mayAdd done time rs = ((decide (time ≥ 0) && decide (time ≤ High)) && (decide (done ≥ 0) && decide (done ≤ High)) && (if decide ((rs.length : Int) > 3) = true then false else reqsMay rs 0 rs)) := by
  have e : Batch.may ⟨false, 0, ⟨0, 0⟩, 0, rs⟩ = (if decide ((rs.length : Int) > 3) = true then false else reqsMay rs 0 rs) := by
    have b0 : bad 0 = false := rfl
    unfold Batch.may
    simp only [Bool.false_eq_true, if_false, List.any_cons, List.any_nil, b0, Bool.or_false, Bool.false_or, Bool.not_false, Bool.not_true]
  unfold mayAdd
  rw [e]
  generalize (if decide ((rs.length : Int) > 3) = true then false else reqsMay rs 0 rs) = m
  have hH : High = 2305843009213693952 := rfl
  cases m
  · simp
  · rw [Bool.eq_iff_iff]
    simp only [hH, Bool.not_eq_true', Bool.or_eq_false_iff, Bool.and_eq_true, decide_eq_true_eq, decide_eq_false_iff_not, Bool.not_true, and_true]
    omega
set_option maxHeartbeats 2000000 in
theorem addR_ok (L : RLead) (done time : Int) (rs : List Req) (hf : 0 ≤ L.first ∧ L.first < 2 ^ 62 ∧ L.bs.length < 2 ^ 30) (hrs : rs.length < 2 ^ 30) (hr : ∀ r ∈ rs, r.ok) :
    CallOK Tryz.prog 14 [.obj L.ro, .f (ai done), .f (ai time), .f (al rs.length (reqsE rs))] (fun r o => r = [ri (addR L done time rs).2.1, ri (addR L done time rs).2.2] ∧ o = [(addR L done time rs).1.ro]) := by
  refine CallOK.leR ?_
  refine callOK_of TOKTy mixed (T := Ty) (n := 89) Tryz.func14 (c := Tryz.f14.body.getD .skip) rfl Tryz.results14 Tryz.ntmps14 Tryz.call14 ?_
  simp only [Tryz.f14, Option.getD]
  have hnx := nextR_ok L hf
  have h1 := high_ok time 0
  have h2 := high_ok done 0
  have h3 := reqs_ok rs (by omega) hr
  have hma := mayAdd_ref (done := done) (time := time) (rs := rs)
  generalize (if decide ((rs.length : Int) > 3) = true then false else reqsMay rs 0 rs) = m3 at h3 hma
  generalize hm1 : (decide (time ≥ 0) && decide (time ≤ High)) = m1 at h1 hma
  generalize hm2 : (decide (done ≥ 0) && decide (done ≤ High)) = m2 at h2 hma
  cases hph : (L.phase != 2)
  · have hp2 : L.phase = 2 := by simpa using hph
    cases hm : mayAdd done time rs
    · have hne : addR L done time rs = (L, 0, 1) := by rw [addR, if_neg (by rw [hph]; simp), if_pos hm]
      rw [hne]
      rw [hm] at hma
      cases m1
      · repeat' (first | (with_reducible first | refine SeqQ_normal _ _ ?_ | refine CondR_tt ?_ | refine CondR_ff ?_) | rw [awp_seq] | simp only [pkS, TyB, hph, pkY, Int.reduceEq, bne_self_eq_false, Int.reduceBEq, Int.reduceBNe, implies_true, forall_const, Nat.reduceSub, Nat.reduceEqDiff, Nat.reduceAdd, Nat.reduceMul, Nat.reduceLeDiff, Nat.reduceLT, Nat.reduceBEq, reduceCtorEq] | ((try refine CallRG_tt ?_); apply CallR_of; (solve | exact (h1) | (refine CallOK.le (h1) ?_; simp [argsLe, aLe, csLe, cLe]))) | (apply CallRG_of; (focus (intro _; (solve | exact (h1) | (refine CallOK.le (h1) ?_; simp [argsLe, aLe, csLe, cLe])))); (focus rfl)) | refine CallRG_no ?_ | refine CondR_of (fun hb => ?_) (fun hb => ?_) | (refine And.intro ?_ ?_; focus ((try with_reducible refine GIm_of ?_); first | (with_reducible rfl) | ((with_reducible first | refine rng_of ?_ | refine ordOK_of ?_ | refine chk_of ?_); kernel_rfl) | (intros; omega) | (intro q p; rw [q, p]; rfl) | (intro q; rw [q]; rfl) | (intro q; simp only [Bool.and_eq_true, decide_eq_true_eq, beq_iff_eq] at q; omega) | (intros; simp [List.range, List.range.loop]; done))) | refine And.intro (fun hg => ?_) (fun hg => ?_) | (with_reducible refine chk_of ?_; kernel_rfl) | fail)
        first | exact ⟨rfl, rfsB_refl, objsB_refl⟩ | exact ⟨rfsB_refl, objsB_refl⟩
      · cases m2
        · repeat' (first | (with_reducible first | refine SeqQ_normal _ _ ?_ | refine CondR_tt ?_ | refine CondR_ff ?_) | rw [awp_seq] | simp only [pkS, TyB, hph, pkY, Int.reduceEq, bne_self_eq_false, Int.reduceBEq, Int.reduceBNe, implies_true, forall_const, Nat.reduceSub, Nat.reduceEqDiff, Nat.reduceAdd, Nat.reduceMul, Nat.reduceLeDiff, Nat.reduceLT, Nat.reduceBEq, reduceCtorEq] | ((try refine CallRG_tt ?_); apply CallR_of; (solve | exact (h1) | exact (h2) | (refine CallOK.le (h1) ?_; simp [argsLe, aLe, csLe, cLe]) | (refine CallOK.le (h2) ?_; simp [argsLe, aLe, csLe, cLe]))) | (apply CallRG_of; (focus (intro _; (solve | exact (h1) | exact (h2) | (refine CallOK.le (h1) ?_; simp [argsLe, aLe, csLe, cLe]) | (refine CallOK.le (h2) ?_; simp [argsLe, aLe, csLe, cLe])))); (focus rfl)) | refine CallRG_no ?_ | refine CondR_of (fun hb => ?_) (fun hb => ?_) | (refine And.intro ?_ ?_; focus ((try with_reducible refine GIm_of ?_); first | (with_reducible rfl) | ((with_reducible first | refine rng_of ?_ | refine ordOK_of ?_ | refine chk_of ?_); kernel_rfl) | (intros; omega) | (intro q p; rw [q, p]; rfl) | (intro q; rw [q]; rfl) | (intro q; simp only [Bool.and_eq_true, decide_eq_true_eq, beq_iff_eq] at q; omega) | (intros; simp [List.range, List.range.loop]; done))) | refine And.intro (fun hg => ?_) (fun hg => ?_) | (with_reducible refine chk_of ?_; kernel_rfl) | fail)
          first | exact ⟨rfl, rfsB_refl, objsB_refl⟩ | exact ⟨rfsB_refl, objsB_refl⟩
        · have : m3 = false := by simpa using hma.symm
          subst this
          repeat' (first | (with_reducible first | refine SeqQ_normal _ _ ?_ | refine CondR_tt ?_ | refine CondR_ff ?_) | rw [awp_seq] | simp only [pkS, TyB, hph, pkY, Int.reduceEq, bne_self_eq_false, Int.reduceBEq, Int.reduceBNe, implies_true, forall_const, Nat.reduceSub, Nat.reduceEqDiff, Nat.reduceAdd, Nat.reduceMul, Nat.reduceLeDiff, Nat.reduceLT, Nat.reduceBEq, reduceCtorEq] | ((try refine CallRG_tt ?_); apply CallR_of; (solve | exact (h1) | exact (h2) | exact (h3) | (refine CallOK.le (h1) ?_; simp [argsLe, aLe, csLe, cLe]) | (refine CallOK.le (h2) ?_; simp [argsLe, aLe, csLe, cLe]) | (refine CallOK.le (h3) ?_; simp [argsLe, aLe, csLe, cLe]))) | (apply CallRG_of; (focus (intro _; (solve | exact (h1) | exact (h2) | exact (h3) | (refine CallOK.le (h1) ?_; simp [argsLe, aLe, csLe, cLe]) | (refine CallOK.le (h2) ?_; simp [argsLe, aLe, csLe, cLe]) | (refine CallOK.le (h3) ?_; simp [argsLe, aLe, csLe, cLe])))); (focus rfl)) | refine CallRG_no ?_ | refine CondR_of (fun hb => ?_) (fun hb => ?_) | (refine And.intro ?_ ?_; focus ((try with_reducible refine GIm_of ?_); first | (with_reducible rfl) | ((with_reducible first | refine rng_of ?_ | refine ordOK_of ?_ | refine chk_of ?_); kernel_rfl) | (intros; omega) | (intro q p; rw [q, p]; rfl) | (intro q; rw [q]; rfl) | (intro q; simp only [Bool.and_eq_true, decide_eq_true_eq, beq_iff_eq] at q; omega) | (intros; simp [List.range, List.range.loop]; done))) | refine And.intro (fun hg => ?_) (fun hg => ?_) | (with_reducible refine chk_of ?_; kernel_rfl) | fail)
          first | exact ⟨rfl, rfsB_refl, objsB_refl⟩ | exact ⟨rfsB_refl, objsB_refl⟩
    · rw [hm] at hma
      obtain ⟨⟨rfl, rfl⟩, rfl⟩ : (m1 = true ∧ m2 = true) ∧ m3 = true := by simpa using hma.symm
      have hdone : 0 ≤ done ∧ done ≤ 2305843009213693952 := by
        have hH : High = 2305843009213693952 := rfl
        simp [hH] at hm2
        omega
      have hw3 : IntKind.i64.wrap (done + 3) = done + 3 := wrap64 (by omega) (by omega)
      cases hful : (decide (nextR L > done + 3) || decide (nextR L > High))
      · have hne : addR L done time rs = ({ L with bs := L.bs ++ [⟨false, L.view, L.tip, time, rs⟩], tip := ⟨L.view, nextR L⟩, time := max L.time time }, nextR L, 0) := by
          rw [addR, if_neg (by rw [hph]; simp), if_neg (by rw [hm]; simp), if_neg (by rw [hful]; simp)]
        rw [hne]
        repeat' (first | (with_reducible first | refine stop_of 12 ?_ | refine stop_of1 12 ?_ | refine stop_of2 12 ?_) | (with_reducible first | refine SeqQ_normal _ _ ?_ | refine CondR_tt ?_ | refine CondR_ff ?_) | rw [awp_seq] | simp only [pkS, TyB, hph, hful, hw3, batches_len, reqs_len, pkY, Int.reduceEq, bne_self_eq_false, Int.reduceBEq, Int.reduceBNe, implies_true, forall_const, Nat.reduceSub, Nat.reduceEqDiff, Nat.reduceAdd, Nat.reduceMul, Nat.reduceLeDiff, Nat.reduceLT, Nat.reduceBEq, reduceCtorEq] | ((try refine CallRG_tt ?_); apply CallR_of; (solve | exact (h1) | exact (h2) | exact (h3) | exact (hnx) | (refine CallOK.le (h1) ?_; simp [argsLe, aLe, csLe, cLe]) | (refine CallOK.le (h2) ?_; simp [argsLe, aLe, csLe, cLe]) | (refine CallOK.le (h3) ?_; simp [argsLe, aLe, csLe, cLe]) | (refine CallOK.le (hnx) ?_; simp [argsLe, aLe, csLe, cLe]))) | (apply CallRG_of; (focus (intro _; (solve | exact (h1) | exact (h2) | exact (h3) | exact (hnx) | (refine CallOK.le (h1) ?_; simp [argsLe, aLe, csLe, cLe]) | (refine CallOK.le (h2) ?_; simp [argsLe, aLe, csLe, cLe]) | (refine CallOK.le (h3) ?_; simp [argsLe, aLe, csLe, cLe]) | (refine CallOK.le (hnx) ?_; simp [argsLe, aLe, csLe, cLe])))); (focus rfl)) | refine CallRG_no ?_ | refine CondR_of (fun hb => ?_) (fun hb => ?_) | (refine And.intro ?_ ?_; focus ((try with_reducible refine GIm_of ?_); first | (with_reducible rfl) | ((with_reducible first | refine rng_of ?_ | refine ordOK_of ?_ | refine chk_of ?_); kernel_rfl) | (intros; omega) | (intro q p; rw [q, p]; rfl) | (intro q; rw [q]; rfl) | (intro q; simp only [Bool.and_eq_true, decide_eq_true_eq, beq_iff_eq] at q; omega) | (intros; simp [List.range, List.range.loop]; done))) | refine And.intro (fun hg => ?_) (fun hg => ?_) | (with_reducible refine chk_of ?_; kernel_rfl) | fail)
        refine stop_go (SeqQ_gh (Gh.sealF 0 5 (.own ⟨0, 6, 1⟩ 0 (L.bs.length + 1)) ?_) ?_)
        · simp only [pkS, TyB, sealFOK, pkX, implies_true, forall_const, Nat.reduceSub, Nat.reduceEqDiff, Nat.reduceAdd, Nat.reduceMul, Nat.reduceLeDiff, Nat.reduceLT, Nat.reduceBEq, reduceCtorEq]
        simp only [pkS, TyB, sealFR, pkX, implies_true, forall_const, Nat.reduceSub, Nat.reduceEqDiff, Nat.reduceAdd, Nat.reduceMul, Nat.reduceLeDiff, Nat.reduceLT, Nat.reduceBEq, reduceCtorEq]
        have e : List.take ((L.bs.length + 1) * 6) (batchesE L.bs ++ [D.v (Value.bool false), D.v (.int .i64 L.view), D.v (.int .i64 L.tip.view), D.v (.int .i64 L.tip.slot), D.v (.int .i64 time), D.sl rs.length (reqsE rs)]) = batchesE (L.bs ++ [⟨false, L.view, L.tip, time, rs⟩]) := by
          rw [List.take_of_length_le (by rw [List.length_append, batches_len]; simp only [List.length_cons, List.length_nil]; omega)]; simp [batchesE]
        repeat' (first | (with_reducible first | refine SeqQ_normal _ _ ?_ | refine CondR_tt ?_ | refine CondR_ff ?_) | rw [awp_seq] | simp only [pkS, TyB, e, pkY, Int.reduceEq, bne_self_eq_false, Int.reduceBEq, Int.reduceBNe, implies_true, forall_const, Nat.reduceSub, Nat.reduceEqDiff, Nat.reduceAdd, Nat.reduceMul, Nat.reduceLeDiff, Nat.reduceLT, Nat.reduceBEq, reduceCtorEq] | refine CallRG_no ?_ | refine CondR_of (fun hb => ?_) (fun hb => ?_) | (refine And.intro ?_ ?_; focus ((try with_reducible refine GIm_of ?_); first | (with_reducible rfl) | ((with_reducible first | refine rng_of ?_ | refine ordOK_of ?_ | refine chk_of ?_); kernel_rfl) | (intros; omega) | (intro q p; rw [q, p]; rfl) | (intro q; rw [q]; rfl) | (intro q; simp only [Bool.and_eq_true, decide_eq_true_eq, beq_iff_eq] at q; omega) | (intros; simp [List.range, List.range.loop]; done))) | refine And.intro (fun hg => ?_) (fun hg => ?_) | (with_reducible refine chk_of ?_; kernel_rfl) | fail)
        refine ⟨rfsB_refl, ?_⟩
        simp [objsB, rosB, roB]
      · have hne : addR L done time rs = (L, 0, 5) := by
          rw [addR, if_neg (by rw [hph]; simp), if_neg (by rw [hm]; simp), if_pos hful]
        rw [hne]
        repeat' (first | (with_reducible first | refine SeqQ_normal _ _ ?_ | refine CondR_tt ?_ | refine CondR_ff ?_) | rw [awp_seq] | simp only [pkS, TyB, hph, hful, hw3, pkY, Int.reduceEq, bne_self_eq_false, Int.reduceBEq, Int.reduceBNe, implies_true, forall_const, Nat.reduceSub, Nat.reduceEqDiff, Nat.reduceAdd, Nat.reduceMul, Nat.reduceLeDiff, Nat.reduceLT, Nat.reduceBEq, reduceCtorEq] | ((try refine CallRG_tt ?_); apply CallR_of; (solve | exact (h1) | exact (h2) | exact (h3) | exact (hnx) | (refine CallOK.le (h1) ?_; simp [argsLe, aLe, csLe, cLe]) | (refine CallOK.le (h2) ?_; simp [argsLe, aLe, csLe, cLe]) | (refine CallOK.le (h3) ?_; simp [argsLe, aLe, csLe, cLe]) | (refine CallOK.le (hnx) ?_; simp [argsLe, aLe, csLe, cLe]))) | (apply CallRG_of; (focus (intro _; (solve | exact (h1) | exact (h2) | exact (h3) | exact (hnx) | (refine CallOK.le (h1) ?_; simp [argsLe, aLe, csLe, cLe]) | (refine CallOK.le (h2) ?_; simp [argsLe, aLe, csLe, cLe]) | (refine CallOK.le (h3) ?_; simp [argsLe, aLe, csLe, cLe]) | (refine CallOK.le (hnx) ?_; simp [argsLe, aLe, csLe, cLe])))); (focus rfl)) | refine CallRG_no ?_ | refine CondR_of (fun hb => ?_) (fun hb => ?_) | (refine And.intro ?_ ?_; focus ((try with_reducible refine GIm_of ?_); first | (with_reducible rfl) | ((with_reducible first | refine rng_of ?_ | refine ordOK_of ?_ | refine chk_of ?_); kernel_rfl) | (intros; omega) | (intro q p; rw [q, p]; rfl) | (intro q; rw [q]; rfl) | (intro q; simp only [Bool.and_eq_true, decide_eq_true_eq, beq_iff_eq] at q; omega) | (intros; simp [List.range, List.range.loop]; done))) | refine And.intro (fun hg => ?_) (fun hg => ?_) | (with_reducible refine chk_of ?_; kernel_rfl) | fail)
        first | exact ⟨rfl, rfsB_refl, objsB_refl⟩ | exact ⟨rfsB_refl, objsB_refl⟩
  · have hne : addR L done time rs = (L, 0, 11) := by rw [addR, if_pos hph]
    rw [hne]
    repeat' (first | (with_reducible first | refine SeqQ_normal _ _ ?_ | refine CondR_tt ?_ | refine CondR_ff ?_) | rw [awp_seq] | simp only [pkS, TyB, hph, pkY, Int.reduceEq, bne_self_eq_false, Int.reduceBEq, Int.reduceBNe, implies_true, forall_const, Nat.reduceSub, Nat.reduceEqDiff, Nat.reduceAdd, Nat.reduceMul, Nat.reduceLeDiff, Nat.reduceLT, Nat.reduceBEq, reduceCtorEq] | refine CallRG_no ?_ | refine CondR_of (fun hb => ?_) (fun hb => ?_) | (refine And.intro ?_ ?_; focus ((try with_reducible refine GIm_of ?_); first | (with_reducible rfl) | ((with_reducible first | refine rng_of ?_ | refine ordOK_of ?_ | refine chk_of ?_); kernel_rfl) | (intros; omega) | (intro q p; rw [q, p]; rfl) | (intro q; rw [q]; rfl) | (intro q; simp only [Bool.and_eq_true, decide_eq_true_eq, beq_iff_eq] at q; omega) | (intros; simp [List.range, List.range.loop]; done))) | refine And.intro (fun hg => ?_) (fun hg => ?_) | (with_reducible refine chk_of ?_; kernel_rfl) | fail)
    first | exact ⟨rfl, rfsB_refl, objsB_refl⟩ | exact ⟨rfsB_refl, objsB_refl⟩
end Go.Proofs.YtgiempmfpmlgnaaGreat

