/- PlanMade: the promises that numbers make. -/
import Derived.Test.YtgiempmfpmlgnaaGreatS
namespace Go.Proofs.YtgiempmfpmlgnaaGreat
open Go.Pk
set_option maxRecDepth 100000
set_option linter.unusedSimpArgs false
set_option linter.unusedVariables false
abbrev bytesE (l : List Int) : List D := l.map uD
def u8 (n : Int) : Prop := 0 ≤ n ∧ n < 256
abbrev ru (n : Int) : AV := .one (.d (.v (.int .u8 n)))
def nameOf (k : Nat) : ByteArray :=
  match k with
  | 0 => ⟨#[97]⟩ | 1 => ⟨#[98]⟩ | 2 => ⟨#[99]⟩ | 3 => ⟨#[100]⟩ | 4 => ⟨#[107, 101, 121, 45, 49]⟩ | _ => ⟨#[116, 104, 101, 45, 108, 97, 115, 116, 45, 111, 110, 101]⟩
theorem u8w {n : Int} (h : u8 n) : IntKind.i64.wrap n = n := wrap64 (by have := h.1; omega) (by have := h.2; omega)
theorem named_ok4 (n : Int) (h : u8 n) : CallOK Tryz.prog 82 [.f (ru n)] (fun r o => r = [.one (.d (sD (nameOf (n.toNat % 6))))] ∧ o = []) := by
  refine callOK_of TOKTy mixed (T := Ty) (n := 9) Tryz.func82 (c := Tryz.f82.body.getD .skip) rfl Tryz.results82 Tryz.ntmps82 Tryz.call82 ?_
  simp only [Tryz.f82, Option.getD]
  have hw := u8w h
  have ht : n.tmod 6 = ((n.toNat % 6 : Nat) : Int) := by
    rw [Int.tmod_eq_emod_of_nonneg h.1]
    have := h.1
    omega
  have hk : n.toNat % 6 < 6 := Nat.mod_lt _ (by decide)
  rw [show nameOf (n.toNat % 6) = nameOf (n.toNat % 6) from rfl]
  generalize n.toNat % 6 = k at ht hk
  have hc : k = 0 ∨ k = 1 ∨ k = 2 ∨ k = 3 ∨ k = 4 ∨ k = 5 := by omega
  rcases hc with rfl | rfl | rfl | rfl | rfl | rfl
  all_goals repeat' (first | with_reducible refine SeqQ_normal _ _ ?_ | rw [awp_seq] | simp only [pkS, TyB, hw, ht, Int.reduceEq, Nat.zero_mul, Nat.mul_one, Nat.one_mul, List.drop_zero, Int.toNat_natCast, List.drop_succ_cons, implies_true, forall_const, Nat.reduceSub, Nat.reduceEqDiff, Nat.reduceAdd, Nat.reduceMul, Nat.reduceLeDiff, Nat.reduceLT, Nat.reduceBEq, reduceCtorEq] | refine CallRG_no ?_ | refine CondR_of (fun hb => ?_) (fun hb => ?_) | (refine And.intro ?_ ?_; focus ((try with_reducible refine GIm_of ?_); first | (with_reducible rfl) | ((with_reducible first | refine rng_of ?_ | refine ordOK_of ?_ | refine chk_of ?_); kernel_rfl) | (intros; omega) | (intro q p; rw [q, p]; rfl) | (intro q; rw [q]; rfl) | (intro q; simp only [Bool.and_eq_true, decide_eq_true_eq, beq_iff_eq] at q; omega) | (intros; simp_all; done) | (intros; simp [List.range, List.range.loop]; done) | (intros; simp_all [List.range, List.range.loop]; done))) | refine And.intro (fun hg => ?_) (fun hg => ?_) | (with_reducible refine chk_of ?_; kernel_rfl) | fail)
  all_goals rfl
theorem tmod_nat {n : Int} {m : Nat} (h : u8 n) (hm : 0 < m) : n.tmod m = ((n.toNat % m : Nat) : Int) := by
  rw [Int.tmod_eq_emod_of_nonneg h.1]
  have e : n = (n.toNat : Int) := by have := h.1; omega
  rw [e, Int.toNat_natCast, Int.natCast_emod]
/-- An order that numbers make: kind, number, name. -/
def cmdP (a b c : Int) : Int × Int × ByteArray :=
  let k : Int := 1 + ((a.toNat % 6 : Nat) : Int)
  (k, if k = 1 then 0 else 1 + ((b.toNat % 7 : Nat) : Int), if k = 3 ∨ k = 4 ∨ k = 5 then nameOf (c.toNat % 6) else .empty)
theorem cmd_ok4 (a b c : Int) (ha : u8 a) (hb : u8 b) (hc : u8 c) : CallOK Tryz.prog 65 [.f (ru a), .f (ru b), .f (ru c)]
    (fun r o => r = [.agg [.d (iD (cmdP a b c).1), .d (iD (cmdP a b c).2.1), .d (sD (cmdP a b c).2.2)]] ∧ o = []) := by
  refine callOK_of TOKTy mixed (T := Ty) (n := 30) Tryz.func65 (c := Tryz.f65.body.getD .skip) rfl Tryz.results65 Tryz.ntmps65 Tryz.call65 ?_
  simp only [Tryz.f65, Option.getD]
  have hwa := u8w ha
  have hwb := u8w hb
  have e6 := tmod_nat ha (m := 6) (by decide)
  have e7 := tmod_nat hb (m := 7) (by decide)
  have l6 : a.toNat % 6 < 6 := Nat.mod_lt _ (by decide)
  have l7 : b.toNat % 7 < 7 := Nat.mod_lt _ (by decide)
  have hw1 : IntKind.i64.wrap (1 + ((a.toNat % 6 : Nat) : Int)) = 1 + ((a.toNat % 6 : Nat) : Int) := wrap64 (by omega) (by omega)
  have hw2 : IntKind.i64.wrap (1 + ((b.toNat % 7 : Nat) : Int)) = 1 + ((b.toNat % 7 : Nat) : Int) := wrap64 (by omega) (by omega)
  rw [show ((6 : Nat) : Int) = 6 from rfl] at e6
  rw [show ((7 : Nat) : Int) = 7 from rfl] at e7
  repeat' (first | with_reducible refine SeqQ_normal _ _ ?_ | rw [awp_seq] | simp only [pkS, TyB, hwa, hwb, e6, e7, hw1, hw2, Int.reduceEq, implies_true, forall_const, Nat.reduceSub, Nat.reduceEqDiff, Nat.reduceAdd, Nat.reduceMul, Nat.reduceLeDiff, Nat.reduceLT, Nat.reduceBEq, reduceCtorEq] | ((try refine CallRG_tt ?_); apply CallR_of; (solve | exact (named_ok4 c hc) | (refine CallOK.le (named_ok4 c hc) ?_; simp [argsLe, aLe, csLe, cLe]))) | (apply CallRG_of; (focus (intro _; (solve | exact (named_ok4 c hc) | (refine CallOK.le (named_ok4 c hc) ?_; simp [argsLe, aLe, csLe, cLe])))); (focus rfl)) | refine CallRG_no ?_ | refine CondR_of (fun hb => ?_) (fun hb => ?_) | (refine And.intro ?_ ?_; focus ((try with_reducible refine GIm_of ?_); first | (with_reducible rfl) | ((with_reducible first | refine rng_of ?_ | refine ordOK_of ?_ | refine chk_of ?_); kernel_rfl) | (intros; omega) | (intro q p; rw [q, p]; rfl) | (intro q; rw [q]; rfl) | (intro q; simp only [Bool.and_eq_true, decide_eq_true_eq, beq_iff_eq] at q; omega) | (intros; simp_all; done) | (intros; simp [List.range, List.range.loop]; done) | (intros; simp_all [List.range, List.range.loop]; done))) | refine And.intro (fun hg => ?_) (fun hg => ?_) | (with_reducible refine chk_of ?_; kernel_rfl) | fail)
  all_goals simp only [beq_iff_eq, beq_eq_false_iff_ne, ne_eq] at *
  all_goals first
    | (exfalso; omega)
    | (simp only [cmdP]; repeat' split
       all_goals first
         | rfl
         | (exfalso; omega))
def reqP (c q a b d : Int) : Req := ⟨((c.toNat % 8 : Nat) : Int), 1 + q, (cmdP a b d).1, (cmdP a b d).2.1, (cmdP a b d).2.2⟩
theorem req_ok4 (c q a b d : Int) (hc : u8 c) (hq : u8 q) (ha : u8 a) (hb : u8 b) (hd : u8 d) : CallOK Tryz.prog 44 [.f (ru c), .f (ru q), .f (ru a), .f (ru b), .f (ru d)]
    (fun r o => r = [.agg ((reqP c q a b d).enc.map RO.d)] ∧ o = []) := by
  refine callOK_of TOKTy mixed (T := Ty) (n := 22) Tryz.func44 (c := Tryz.f44.body.getD .skip) rfl Tryz.results44 Tryz.ntmps44 Tryz.call44 ?_
  simp only [Tryz.f44, Option.getD]
  have hwc := u8w hc
  have hwq := u8w hq
  have e8 := tmod_nat hc (m := 8) (by decide)
  rw [show ((8 : Nat) : Int) = 8 from rfl] at e8
  have hw1 : IntKind.i64.wrap (1 + q) = 1 + q := wrap64 (by have := hq.1; omega) (by have := hq.2; omega)
  repeat' (first | with_reducible refine SeqQ_normal _ _ ?_ | rw [awp_seq] | simp only [pkS, TyB, hwc, hwq, e8, hw1, Int.reduceEq, implies_true, forall_const, Nat.reduceSub, Nat.reduceEqDiff, Nat.reduceAdd, Nat.reduceMul, Nat.reduceLeDiff, Nat.reduceLT, Nat.reduceBEq, reduceCtorEq] | ((try refine CallRG_tt ?_); apply CallR_of; (solve | exact (cmd_ok4 a b d ha hb hd) | (refine CallOK.le (cmd_ok4 a b d ha hb hd) ?_; simp [argsLe, aLe, csLe, cLe]))) | (apply CallRG_of; (focus (intro _; (solve | exact (cmd_ok4 a b d ha hb hd) | (refine CallOK.le (cmd_ok4 a b d ha hb hd) ?_; simp [argsLe, aLe, csLe, cLe])))); (focus rfl)) | refine CallRG_no ?_ | refine CondR_of (fun hb => ?_) (fun hb => ?_) | (refine And.intro ?_ ?_; focus ((try with_reducible refine GIm_of ?_); first | (with_reducible rfl) | ((with_reducible first | refine rng_of ?_ | refine ordOK_of ?_ | refine chk_of ?_); kernel_rfl) | (intros; omega) | (intro q p; rw [q, p]; rfl) | (intro q; rw [q]; rfl) | (intro q; simp only [Bool.and_eq_true, decide_eq_true_eq, beq_iff_eq] at q; omega) | (intros; simp_all; done) | (intros; simp [List.range, List.range.loop]; done) | (intros; simp_all [List.range, List.range.loop]; done))) | refine And.intro (fun hg => ?_) (fun hg => ?_) | (with_reducible refine chk_of ?_; kernel_rfl) | fail)
  rfl
end Go.Proofs.YtgiempmfpmlgnaaGreat

