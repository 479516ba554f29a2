/- Contracts: the sort, its calls. -/
import Derived.Test.YtgiempmfpmlgnaaGreatG
namespace Go.Proofs.YtgiempmfpmlgnaaGreat
open Go.Pk
set_option maxRecDepth 100000
set_option linter.unusedSimpArgs false
set_option linter.unusedVariables false
/-- A loop that is left in its first round. -/
theorem LoopR_once {T : Nat → Option TI} {P : Program} {x : Code} {g : G} {Q : Ex → G → Prop} (h : ∀ K, awp T P x g (RndQ K Q)) : LoopR T P x g Q :=
  LoopR_fn (τ := Unit) (fun _ => g) (fun _ => True) (fun _ => ()) (fun _ => 0) () Gh.refl trivial fun _ _ _ K _ => h K
theorem innerP_len : ∀ (l : List Prom) (j : Nat), (innerP l j).length = l.length
  | l, 0 => rfl
  | l, j + 1 => by
    rw [innerP]
    split
    · split
      · rw [innerP_len, swapP_len]
      · rfl
    · rfl
theorem outerP_len : ∀ (k : Nat) (l : List Prom) (i : Nat), (outerP l i k).length = l.length
  | 0, l, i => rfl
  | k + 1, l, i => by rw [outerP, outerP_len k, innerP_len]
def lenT (n : Nat) : Int := if n = 0 then 0 else if n = 1 then 1 else if n < 4 then 2 else 3
theorem len64_ok (n : Nat) (hn : n ≤ 7) : CallOK Tryz.prog 100 [.f (.one (.d (.v (.int .u64 n))))] (fun r o => r = [.one (.d (iD (lenT n)))] ∧ o = []) := by
  refine callOK_of TOKTy mixed (T := Ty) (n := 25) Tryz.func100 (c := Tryz.f100.body.getD .skip) rfl Tryz.results100 Tryz.ntmps100 Tryz.call100 ?_
  simp only [Tryz.f100, Option.getD]
  have h1 : decide ((n : Int) ≥ 4294967296) = false := by simp; omega
  have h2 : decide ((n : Int) ≥ 65536) = false := by simp; omega
  have h3 : decide ((n : Int) ≥ 256) = false := by simp; omega
  repeat (first | with_reducible refine SeqQ_normal _ _ ?_ | with_reducible refine And.imp_right (SeqQ_normal _ _) ?_ | with_reducible refine And.imp_right (And.imp_right (SeqQ_normal _ _)) ?_ | with_reducible refine And.imp_right (And.imp_right (And.imp_right (SeqQ_normal _ _))) ?_ | rw [awp_seq] | simp only [pkS, TyB, h1, h2, h3, implies_true, forall_const, Nat.reduceSub, Nat.reduceEqDiff, Nat.reduceAdd, Nat.reduceMul, Nat.reduceLeDiff, Nat.reduceLT, Nat.reduceBEq, reduceCtorEq])
  refine CondR_of (fun hb => by cases hb) (fun hb => ?_)
  repeat (first | with_reducible refine SeqQ_normal _ _ ?_ | with_reducible refine And.imp_right (SeqQ_normal _ _) ?_ | with_reducible refine And.imp_right (And.imp_right (SeqQ_normal _ _)) ?_ | with_reducible refine And.imp_right (And.imp_right (And.imp_right (SeqQ_normal _ _))) ?_ | rw [awp_seq] | simp only [pkS, TyB, h1, h2, h3, implies_true, forall_const, Nat.reduceSub, Nat.reduceEqDiff, Nat.reduceAdd, Nat.reduceMul, Nat.reduceLeDiff, Nat.reduceLT, Nat.reduceBEq, reduceCtorEq])
  refine CondR_of (fun hb => by cases hb) (fun hb => ?_)
  repeat (first | with_reducible refine SeqQ_normal _ _ ?_ | with_reducible refine And.imp_right (SeqQ_normal _ _) ?_ | with_reducible refine And.imp_right (And.imp_right (SeqQ_normal _ _)) ?_ | with_reducible refine And.imp_right (And.imp_right (And.imp_right (SeqQ_normal _ _))) ?_ | rw [awp_seq] | simp only [pkS, TyB, h1, h2, h3, implies_true, forall_const, Nat.reduceSub, Nat.reduceEqDiff, Nat.reduceAdd, Nat.reduceMul, Nat.reduceLeDiff, Nat.reduceLT, Nat.reduceBEq, reduceCtorEq])
  refine CondR_of (fun hb => by cases hb) (fun hb => ?_)
  repeat (first | with_reducible refine SeqQ_normal _ _ ?_ | with_reducible refine And.imp_right (SeqQ_normal _ _) ?_ | with_reducible refine And.imp_right (And.imp_right (SeqQ_normal _ _)) ?_ | with_reducible refine And.imp_right (And.imp_right (And.imp_right (SeqQ_normal _ _))) ?_ | rw [awp_seq] | simp only [pkS, TyB, h1, h2, h3, implies_true, forall_const, Nat.reduceSub, Nat.reduceEqDiff, Nat.reduceAdd, Nat.reduceMul, Nat.reduceLeDiff, Nat.reduceLT, Nat.reduceBEq, reduceCtorEq])
  have hc : n = 0 ∨ n = 1 ∨ n = 2 ∨ n = 3 ∨ n = 4 ∨ n = 5 ∨ n = 6 ∨ n = 7 := by omega
  rcases hc with rfl | rfl | rfl | rfl | rfl | rfl | rfl | rfl
  all_goals exact ⟨by decide +kernel, by kernel_rfl⟩
theorem len_ok (n : Nat) (hn : n ≤ 7) : CallOK Tryz.prog 79 [.f (.one (.d (.v (.int .u64 n))))] (fun r o => r = [.one (.d (iD (lenT n)))] ∧ o = []) := by
  refine callOK_of TOKTy mixed (T := Ty) (n := 8) Tryz.func79 (c := Tryz.f79.body.getD .skip) rfl Tryz.results79 Tryz.ntmps79 Tryz.call79 ?_
  simp only [Tryz.f79, Option.getD]
  repeat (first | with_reducible refine SeqQ_normal _ _ ?_ | with_reducible refine And.imp_right (SeqQ_normal _ _) ?_ | with_reducible refine And.imp_right (And.imp_right (SeqQ_normal _ _)) ?_ | with_reducible refine And.imp_right (And.imp_right (And.imp_right (SeqQ_normal _ _))) ?_ | rw [awp_seq] | simp only [pkS, TyB,  implies_true, forall_const, Nat.reduceSub, Nat.reduceEqDiff, Nat.reduceAdd, Nat.reduceMul, Nat.reduceLeDiff, Nat.reduceLT, Nat.reduceBEq, reduceCtorEq])
  refine CondR_of (fun hb => by cases hb) (fun hb => ?_)
  repeat' (first | with_reducible refine SeqQ_normal _ _ ?_ | rw [awp_seq] | simp only [pkS, TyB,  implies_true, forall_const, Nat.reduceSub, Nat.reduceEqDiff, Nat.reduceAdd, Nat.reduceMul, Nat.reduceLeDiff, Nat.reduceLT, Nat.reduceBEq, reduceCtorEq] | ((try refine CallRG_tt ?_); apply CallR_of; (solve | exact (len64_ok n hn) | (refine CallOK.le (len64_ok n hn) ?_; simp [argsLe, aLe, csLe, cLe]))) | (apply CallRG_of; (focus (intro _; (solve | exact (len64_ok n hn) | (refine CallOK.le (len64_ok n hn) ?_; simp [argsLe, aLe, csLe, cLe])))); (focus rfl)) | refine CallRG_no ?_ | refine CondR_of (fun hb => ?_) (fun hb => ?_) | (refine And.intro ?_ ?_; focus ((try with_reducible refine GIm_of ?_); first | (with_reducible rfl) | ((with_reducible first | refine rng_of ?_ | refine ordOK_of ?_ | refine chk_of ?_); kernel_rfl) | (intros; omega) | (intro q p; rw [q, p]; rfl) | (intro q; rw [q]; rfl) | (intro q; simp only [Bool.and_eq_true, decide_eq_true_eq, beq_iff_eq] at q; omega) | (intros; simp_all; done) | (intros; simp [List.range, List.range.loop]; done) | (intros; simp_all [List.range, List.range.loop]; done))) | refine And.intro (fun hg => ?_) (fun hg => ?_) | (with_reducible refine chk_of ?_; kernel_rfl) | fail)
theorem pdq_ok (l : List Prom) (hp : 0 < l.length) (hl : l.length ≤ 7) (hs : ∀ p ∈ l, 0 ≤ p.src ∧ p.src < 7) (lim : Int) : CallOK Tryz.prog 78 [.row 6 l.length (promisesE l), .f (ai 0), .f (ai l.length), .f (ai lim), .f (.one (.clos 58 []))] (fun r o => r = [] ∧ o = [[.own 6 l.length (promisesE (outerP l 1 (l.length - 1))) true]]) := by
  refine callOK_of TOKTy mixed (T := Ty) (n := 148) Tryz.func78 (c := Tryz.f78.body.getD .skip) rfl Tryz.results78 Tryz.ntmps78 Tryz.call78 ?_
  simp only [Tryz.f78, Option.getD]
  have h1 : decide (IntKind.i64.wrap ((l.length : Int) - 0) ≤ 12) = true := by rw [wrap64 (by omega) (by omega)]; simp; omega
  repeat (first | with_reducible refine SeqQ_normal _ _ ?_ | with_reducible refine And.imp_right (SeqQ_normal _ _) ?_ | with_reducible refine And.imp_right (And.imp_right (SeqQ_normal _ _)) ?_ | with_reducible refine And.imp_right (And.imp_right (And.imp_right (SeqQ_normal _ _))) ?_ | rw [awp_seq] | simp only [pkS, TyB,  implies_true, forall_const, Nat.reduceSub, Nat.reduceEqDiff, Nat.reduceAdd, Nat.reduceMul, Nat.reduceLeDiff, Nat.reduceLT, Nat.reduceBEq, reduceCtorEq])
  refine LoopR_once fun K => ?_
  repeat (first | with_reducible refine SeqQ_normal _ _ ?_ | with_reducible refine And.imp_right (SeqQ_normal _ _) ?_ | with_reducible refine And.imp_right (And.imp_right (SeqQ_normal _ _)) ?_ | with_reducible refine And.imp_right (And.imp_right (And.imp_right (SeqQ_normal _ _))) ?_ | rw [awp_seq] | simp only [pkS, TyB, h1, implies_true, forall_const, Nat.reduceSub, Nat.reduceEqDiff, Nat.reduceAdd, Nat.reduceMul, Nat.reduceLeDiff, Nat.reduceLT, Nat.reduceBEq, reduceCtorEq])
  refine CondR_of (fun hb => ?_) (fun hb => by cases hb)
  repeat (first | with_reducible refine SeqQ_normal _ _ ?_ | with_reducible refine And.imp_right (SeqQ_normal _ _) ?_ | with_reducible refine And.imp_right (And.imp_right (SeqQ_normal _ _)) ?_ | with_reducible refine And.imp_right (And.imp_right (And.imp_right (SeqQ_normal _ _))) ?_ | rw [awp_seq] | simp only [pkS, TyB,  implies_true, forall_const, Nat.reduceSub, Nat.reduceEqDiff, Nat.reduceAdd, Nat.reduceMul, Nat.reduceLeDiff, Nat.reduceLT, Nat.reduceBEq, reduceCtorEq])
  refine CallM_of (n := 91) (ars := [.row 6 l.length (promisesE l), .f (ai 0), .f (ai l.length), .f (.one (.clos 58 []))]) (mv := .r ⟨0, 1, 0⟩ l.length) (lent := []) (rfs := []) (l' := [.own 6 l.length (promisesE (outerP l 1 (l.length - 1))) true]) 0 ?_ (insSort_ok l (by omega) hs) ?_ ?_
  · simp only [pkS, TyB, toDs_map, implies_true, forall_const, Nat.reduceSub, Nat.reduceEqDiff, Nat.reduceAdd, Nat.reduceMul, Nat.reduceLeDiff, Nat.reduceLT, Nat.reduceBEq, reduceCtorEq]
  · simp only [pkS, TyB, scM, implies_true, forall_const, Nat.reduceSub, Nat.reduceEqDiff, Nat.reduceAdd, Nat.reduceMul, Nat.reduceLeDiff, Nat.reduceLT, Nat.reduceBEq, reduceCtorEq]
    exact ⟨rfl, hp, by rw [List.length_map, promises_len, promises_len, outerP_len]⟩
  repeat (first | with_reducible refine SeqQ_normal _ _ ?_ | with_reducible refine And.imp_right (SeqQ_normal _ _) ?_ | with_reducible refine And.imp_right (And.imp_right (SeqQ_normal _ _)) ?_ | with_reducible refine And.imp_right (And.imp_right (And.imp_right (SeqQ_normal _ _))) ?_ | rw [awp_seq] | simp only [pkS, TyB, List.contains_nil, Bool.false_eq_true, toDs_map, List.length_map, promises_len, outerP_len, implies_true, forall_const, Nat.reduceSub, Nat.reduceEqDiff, Nat.reduceAdd, Nat.reduceMul, Nat.reduceLeDiff, Nat.reduceLT, Nat.reduceBEq, reduceCtorEq])
theorem sort_ok (l : List Prom) (hp : 0 < l.length) (hl : l.length ≤ 7) (hs : ∀ p ∈ l, 0 ≤ p.src ∧ p.src < 7) : CallOK Tryz.prog 57 [.row 6 l.length (promisesE l), .f (.one (.clos 58 []))] (fun r o => r = [] ∧ o = [[.own 6 l.length (promisesE (outerP l 1 (l.length - 1))) true]]) := by
  refine callOK_of TOKTy mixed (T := Ty) (n := 14) Tryz.func57 (c := Tryz.f57.body.getD .skip) rfl Tryz.results57 Tryz.ntmps57 Tryz.call57 ?_
  simp only [Tryz.f57, Option.getD]
  have hw : IntKind.u64.wrap (l.length : Int) = l.length := by
    have e : (2 : Int) ^ IntKind.u64.bits = 18446744073709551616 := by decide
    unfold IntKind.wrap
    rw [e]
    simp [IntKind.signed]
    omega
  repeat' (first | with_reducible refine SeqQ_normal _ _ ?_ | rw [awp_seq] | simp only [pkS, TyB, hw, implies_true, forall_const, Nat.reduceSub, Nat.reduceEqDiff, Nat.reduceAdd, Nat.reduceMul, Nat.reduceLeDiff, Nat.reduceLT, Nat.reduceBEq, reduceCtorEq] | ((try refine CallRG_tt ?_); apply CallR_of; (solve | exact (len_ok l.length hl) | (refine CallOK.le (len_ok l.length hl) ?_; simp [argsLe, aLe, csLe, cLe]))) | (apply CallRG_of; (focus (intro _; (solve | exact (len_ok l.length hl) | (refine CallOK.le (len_ok l.length hl) ?_; simp [argsLe, aLe, csLe, cLe])))); (focus rfl)) | refine CallRG_no ?_ | refine CondR_of (fun hb => ?_) (fun hb => ?_) | (refine And.intro ?_ ?_; focus ((try with_reducible refine GIm_of ?_); first | (with_reducible rfl) | ((with_reducible first | refine rng_of ?_ | refine ordOK_of ?_ | refine chk_of ?_); kernel_rfl) | (intros; omega) | (intro q p; rw [q, p]; rfl) | (intro q; rw [q]; rfl) | (intro q; simp only [Bool.and_eq_true, decide_eq_true_eq, beq_iff_eq] at q; omega) | (intros; simp_all; done) | (intros; simp [List.range, List.range.loop]; done) | (intros; simp_all [List.range, List.range.loop]; done))) | refine And.intro (fun hg => ?_) (fun hg => ?_) | (with_reducible refine chk_of ?_; kernel_rfl) | fail)
  refine CallM_of (n := 78) (ars := [.row 6 l.length (promisesE l), .f (ai 0), .f (ai l.length), .f (ai (lenT l.length)), .f (.one (.clos 58 []))]) (mv := .r ⟨0, 1, 0⟩ l.length) (lent := []) (rfs := []) (l' := [.own 6 l.length (promisesE (outerP l 1 (l.length - 1))) true]) 0 ?_ (pdq_ok l hp hl hs _) ?_ ?_
  · simp only [pkS, TyB, toDs_map, implies_true, forall_const, Nat.reduceSub, Nat.reduceEqDiff, Nat.reduceAdd, Nat.reduceMul, Nat.reduceLeDiff, Nat.reduceLT, Nat.reduceBEq, reduceCtorEq]
  · simp only [pkS, TyB, scM, implies_true, forall_const, Nat.reduceSub, Nat.reduceEqDiff, Nat.reduceAdd, Nat.reduceMul, Nat.reduceLeDiff, Nat.reduceLT, Nat.reduceBEq, reduceCtorEq]
    exact ⟨rfl, hp, by rw [List.length_map, promises_len, promises_len, outerP_len]⟩
  repeat (first | with_reducible refine SeqQ_normal _ _ ?_ | with_reducible refine And.imp_right (SeqQ_normal _ _) ?_ | with_reducible refine And.imp_right (And.imp_right (SeqQ_normal _ _)) ?_ | with_reducible refine And.imp_right (And.imp_right (And.imp_right (SeqQ_normal _ _))) ?_ | rw [awp_seq] | simp only [pkS, TyB, List.contains_nil, Bool.false_eq_true, toDs_map, List.length_map, promises_len, outerP_len, implies_true, forall_const, Nat.reduceSub, Nat.reduceEqDiff, Nat.reduceAdd, Nat.reduceMul, Nat.reduceLeDiff, Nat.reduceLT, Nat.reduceBEq, reduceCtorEq])
end Go.Proofs.YtgiempmfpmlgnaaGreat

