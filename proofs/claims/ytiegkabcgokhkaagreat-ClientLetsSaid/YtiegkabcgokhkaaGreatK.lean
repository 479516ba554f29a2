import Derived.Test.YtiegkabcgokhkaaGreatA
import Derived.Test.YtiegkabcgokhkaaGreatK8
namespace Go.Proofs.YtiegkabcgokhkaaGreat
open Go.Pk
set_option maxRecDepth 100000
set_option linter.unusedSimpArgs false
set_option linter.unusedVariables false
def codeOf : Value → Value
 | .iface _ (.agg ⟨[c]⟩) => c
 | _ => undef
abbrev faultV (t : Nat) (n : Int) : Value := .iface t (.agg #[.int .i64 n])
def IsFault (t : Nat) (x : Value) : Prop := ∃ n, x = faultV t n
def nw3 (z : Value) (x : Value) (k : Nat) : List Value := if k = 4 then [z] else if k = 5 then [.int .i64 0] else [codeOf x]
def nwT (x : Value) (k : Nat) : List Value := if k = 6 then [.string .empty] else if k = 7 then [.int .i64 0] else [codeOf x]
def sz3 (_ : Nat) : Nat := 1
theorem len1 {l : List Value} (h : l.length = 1) : ∃ a, l = [a] := by
 match l, h with
 | [a], _ => exact ⟨a, rfl⟩
theorem cells3 {ks : List Nat} {ls : List (List Value)} (hk : ks.length = 3) (h : ls.length = ks.length) (hs : ∀ (i k : Nat) (l : List Value), ks[i]? = some k → ls[i]? = some l → l.length = sz3 k) : ∃ a b c, ls = [[a], [b], [c]] := by
 rw [hk] at h
 match ls, h with
 | [x, y, z], _ =>
  obtain ⟨a, rfl⟩ := len1 (hs 0 ks[0] x (List.getElem?_eq_getElem (by omega)) rfl)
  obtain ⟨b, rfl⟩ := len1 (hs 1 ks[1] y (List.getElem?_eq_getElem (by omega)) rfl)
  obtain ⟨c, rfl⟩ := len1 (hs 2 ks[2] z (List.getElem?_eq_getElem (by omega)) rfl)
  exact ⟨a, b, c, rfl⟩
theorem zgq {P : Program} {t : Nat} {z : Value} (h : (P.info? t).bind (·.zero) = some z) (w : World) : (zeroValue t).run P w = .ok z w := by
 cases hi : P.info? t with
 | none => rw [hi] at h; cases h
 | some i => rw [hi] at h; simp [zeroValue, typeInfo, hi, show i.zero = some z from h]
theorem zcY : (Tryz.prog.info? 177).bind (·.zero) = some (.agg #[.int .i64 0]) := by kernel_rfl
theorem zeZ : CatchC Tryz.prog 127 [4, 5, 6] sz3 (nw3 (.int .i64 0)) (IsFault 177) := by
 refine zeA zaB mixed (T := Ty) Tryz.func127 rfl rfl Tryz.ntmps127 rfl rfl rfl rfl rfl rfl rfl (by decide) (by decide) (by decide) ?_
 rintro x ⟨n, rfl⟩ ls hl hs
 obtain ⟨a, b, c, rfl⟩ := cells3 rfl hl hs
 refine ⟨.tuple #[.agg #[.int .i64 n], .bool true], .tup [.agg [di n], ab true], ?_, ?_, rfl, ?_⟩
 ·intro w
  simp [Instr.typeAssert, Tryz.underlying177]
 ·intro cx w r β
  simp [ReA, ReAs, ReC, ReCs, Rd, flat]
 ·simp only [cellArgs, plainO, List.map_cons, List.map_nil]
  simp only [pkS, TyB,  implies_true, forall_const, Nat.reduceSub, Nat.reduceEqDiff, Nat.reduceAdd, Nat.reduceMul, Nat.reduceLeDiff, Nat.reduceLT, Nat.reduceBEq, reduceCtorEq]
  repeat' (first | (with_reducible first | refine zaa _ _ ?_ | refine zaf ?_ | refine zah ?_) | rw [zai] | simp only [pkS, TyB, pkY, Int.reduceEq, bne_self_eq_false, Int.reduceBEq, Int.reduceBNe, implies_true, forall_const, Nat.reduceSub, Nat.reduceEqDiff, Nat.reduceAdd, Nat.reduceMul, Nat.reduceLeDiff, Nat.reduceLT, Nat.reduceBEq, reduceCtorEq] | refine zab ?_ | refine zad (fun hb => ?_) (fun hb => ?_) | (refine And.intro ?_ ?_; focus ((try with_reducible refine zaj ?_); first | (with_reducible rfl) | ((with_reducible first | refine zak ?_ | refine zae ?_ | refine zac ?_); kernel_rfl) | (intros; omega) | (intro q p; rw [q, p]; rfl) | (intro q; rw [q]; rfl) | (intro q; simp only [Bool.and_eq_true, decide_eq_true_eq, beq_iff_eq] at q; omega) | (intros; simp [List.range, List.range.loop]; done) | (intros; simp_all [List.range, List.range.loop]; done))) | refine And.intro (fun hg => ?_) (fun hg => ?_) | (with_reducible refine zac ?_; kernel_rfl) | fail)
  rfl
theorem zfQ : IdleC Tryz.prog 127 3 := by
 refine zca zaB mixed (T := Ty) Tryz.func127 rfl rfl Tryz.ntmps127 rfl rfl rfl rfl rfl rfl rfl (by decide) (y7 := .tuple #[.agg #[.int .i64 0], .bool false]) (V7 := .tup [.agg [di 0], ab false]) ?_ ?_ (by decide) rfl ?_
 ·intro w
  simp [Instr.typeAssert, Tryz.underlying177, zgq (zcY) w]
 ·intro cx w r β
  simp [ReA, ReAs, ReC, ReCs, Rd, flat]
 ·simp only [List.replicate]
  simp only [pkS, TyB,  implies_true, forall_const, Nat.reduceSub, Nat.reduceEqDiff, Nat.reduceAdd, Nat.reduceMul, Nat.reduceLeDiff, Nat.reduceLT, Nat.reduceBEq, reduceCtorEq]
  repeat' (first | (with_reducible first | refine zaa _ _ ?_ | refine zaf ?_ | refine zah ?_) | rw [zai] | simp only [pkS, TyB, pkY, Int.reduceEq, bne_self_eq_false, Int.reduceBEq, Int.reduceBNe, implies_true, forall_const, Nat.reduceSub, Nat.reduceEqDiff, Nat.reduceAdd, Nat.reduceMul, Nat.reduceLeDiff, Nat.reduceLT, Nat.reduceBEq, reduceCtorEq] | refine zab ?_ | refine zad (fun hb => ?_) (fun hb => ?_) | (refine And.intro ?_ ?_; focus ((try with_reducible refine zaj ?_); first | (with_reducible rfl) | ((with_reducible first | refine zak ?_ | refine zae ?_ | refine zac ?_); kernel_rfl) | (intros; omega) | (intro q p; rw [q, p]; rfl) | (intro q; rw [q]; rfl) | (intro q; simp only [Bool.and_eq_true, decide_eq_true_eq, beq_iff_eq] at q; omega) | (intros; simp [List.range, List.range.loop]; done) | (intros; simp_all [List.range, List.range.loop]; done))) | refine And.intro (fun hg => ?_) (fun hg => ?_) | (with_reducible refine zac ?_; kernel_rfl) | fail)
theorem zfR : CatchC Tryz.prog 129 [4, 5, 6] sz3 (nw3 (.int .i64 0)) (IsFault 177) := by
 refine zeA zaB mixed (T := Ty) Tryz.func129 rfl rfl Tryz.ntmps129 rfl rfl rfl rfl rfl rfl rfl (by decide) (by decide) (by decide) ?_
 rintro x ⟨n, rfl⟩ ls hl hs
 obtain ⟨a, b, c, rfl⟩ := cells3 rfl hl hs
 refine ⟨.tuple #[.agg #[.int .i64 n], .bool true], .tup [.agg [di n], ab true], ?_, ?_, rfl, ?_⟩
 ·intro w
  simp [Instr.typeAssert, Tryz.underlying177]
 ·intro cx w r β
  simp [ReA, ReAs, ReC, ReCs, Rd, flat]
 ·simp only [cellArgs, plainO, List.map_cons, List.map_nil]
  simp only [pkS, TyB,  implies_true, forall_const, Nat.reduceSub, Nat.reduceEqDiff, Nat.reduceAdd, Nat.reduceMul, Nat.reduceLeDiff, Nat.reduceLT, Nat.reduceBEq, reduceCtorEq]
  repeat' (first | (with_reducible first | refine zaa _ _ ?_ | refine zaf ?_ | refine zah ?_) | rw [zai] | simp only [pkS, TyB, pkY, Int.reduceEq, bne_self_eq_false, Int.reduceBEq, Int.reduceBNe, implies_true, forall_const, Nat.reduceSub, Nat.reduceEqDiff, Nat.reduceAdd, Nat.reduceMul, Nat.reduceLeDiff, Nat.reduceLT, Nat.reduceBEq, reduceCtorEq] | refine zab ?_ | refine zad (fun hb => ?_) (fun hb => ?_) | (refine And.intro ?_ ?_; focus ((try with_reducible refine zaj ?_); first | (with_reducible rfl) | ((with_reducible first | refine zak ?_ | refine zae ?_ | refine zac ?_); kernel_rfl) | (intros; omega) | (intro q p; rw [q, p]; rfl) | (intro q; rw [q]; rfl) | (intro q; simp only [Bool.and_eq_true, decide_eq_true_eq, beq_iff_eq] at q; omega) | (intros; simp [List.range, List.range.loop]; done) | (intros; simp_all [List.range, List.range.loop]; done))) | refine And.intro (fun hg => ?_) (fun hg => ?_) | (with_reducible refine zac ?_; kernel_rfl) | fail)
  rfl
theorem zhh : IdleC Tryz.prog 129 3 := by
 refine zca zaB mixed (T := Ty) Tryz.func129 rfl rfl Tryz.ntmps129 rfl rfl rfl rfl rfl rfl rfl (by decide) (y7 := .tuple #[.agg #[.int .i64 0], .bool false]) (V7 := .tup [.agg [di 0], ab false]) ?_ ?_ (by decide) rfl ?_
 ·intro w
  simp [Instr.typeAssert, Tryz.underlying177, zgq (zcY) w]
 ·intro cx w r β
  simp [ReA, ReAs, ReC, ReCs, Rd, flat]
 ·simp only [List.replicate]
  simp only [pkS, TyB,  implies_true, forall_const, Nat.reduceSub, Nat.reduceEqDiff, Nat.reduceAdd, Nat.reduceMul, Nat.reduceLeDiff, Nat.reduceLT, Nat.reduceBEq, reduceCtorEq]
  repeat' (first | (with_reducible first | refine zaa _ _ ?_ | refine zaf ?_ | refine zah ?_) | rw [zai] | simp only [pkS, TyB, pkY, Int.reduceEq, bne_self_eq_false, Int.reduceBEq, Int.reduceBNe, implies_true, forall_const, Nat.reduceSub, Nat.reduceEqDiff, Nat.reduceAdd, Nat.reduceMul, Nat.reduceLeDiff, Nat.reduceLT, Nat.reduceBEq, reduceCtorEq] | refine zab ?_ | refine zad (fun hb => ?_) (fun hb => ?_) | (refine And.intro ?_ ?_; focus ((try with_reducible refine zaj ?_); first | (with_reducible rfl) | ((with_reducible first | refine zak ?_ | refine zae ?_ | refine zac ?_); kernel_rfl) | (intros; omega) | (intro q p; rw [q, p]; rfl) | (intro q; rw [q]; rfl) | (intro q; simp only [Bool.and_eq_true, decide_eq_true_eq, beq_iff_eq] at q; omega) | (intros; simp [List.range, List.range.loop]; done) | (intros; simp_all [List.range, List.range.loop]; done))) | refine And.intro (fun hg => ?_) (fun hg => ?_) | (with_reducible refine zac ?_; kernel_rfl) | fail)
theorem zcl : CatchC Tryz.prog 166 [6, 7, 8] sz3 (nwT) (IsFault 177) := by
 refine zeA zaB mixed (T := Ty) Tryz.func166 rfl rfl Tryz.ntmps166 rfl rfl rfl rfl rfl rfl rfl (by decide) (by decide) (by decide) ?_
 rintro x ⟨n, rfl⟩ ls hl hs
 obtain ⟨a, b, c, rfl⟩ := cells3 rfl hl hs
 refine ⟨.tuple #[.agg #[.int .i64 n], .bool true], .tup [.agg [di n], ab true], ?_, ?_, rfl, ?_⟩
 ·intro w
  simp [Instr.typeAssert, Tryz.underlying177]
 ·intro cx w r β
  simp [ReA, ReAs, ReC, ReCs, Rd, flat]
 ·simp only [cellArgs, plainO, List.map_cons, List.map_nil]
  simp only [pkS, TyB,  implies_true, forall_const, Nat.reduceSub, Nat.reduceEqDiff, Nat.reduceAdd, Nat.reduceMul, Nat.reduceLeDiff, Nat.reduceLT, Nat.reduceBEq, reduceCtorEq]
  repeat' (first | (with_reducible first | refine zaa _ _ ?_ | refine zaf ?_ | refine zah ?_) | rw [zai] | simp only [pkS, TyB, pkY, Int.reduceEq, bne_self_eq_false, Int.reduceBEq, Int.reduceBNe, implies_true, forall_const, Nat.reduceSub, Nat.reduceEqDiff, Nat.reduceAdd, Nat.reduceMul, Nat.reduceLeDiff, Nat.reduceLT, Nat.reduceBEq, reduceCtorEq] | refine zab ?_ | refine zad (fun hb => ?_) (fun hb => ?_) | (refine And.intro ?_ ?_; focus ((try with_reducible refine zaj ?_); first | (with_reducible rfl) | ((with_reducible first | refine zak ?_ | refine zae ?_ | refine zac ?_); kernel_rfl) | (intros; omega) | (intro q p; rw [q, p]; rfl) | (intro q; rw [q]; rfl) | (intro q; simp only [Bool.and_eq_true, decide_eq_true_eq, beq_iff_eq] at q; omega) | (intros; simp [List.range, List.range.loop]; done) | (intros; simp_all [List.range, List.range.loop]; done))) | refine And.intro (fun hg => ?_) (fun hg => ?_) | (with_reducible refine zac ?_; kernel_rfl) | fail)
  rfl
theorem zcZ : IdleC Tryz.prog 166 3 := by
 refine zca zaB mixed (T := Ty) Tryz.func166 rfl rfl Tryz.ntmps166 rfl rfl rfl rfl rfl rfl rfl (by decide) (y7 := .tuple #[.agg #[.int .i64 0], .bool false]) (V7 := .tup [.agg [di 0], ab false]) ?_ ?_ (by decide) rfl ?_
 ·intro w
  simp [Instr.typeAssert, Tryz.underlying177, zgq (zcY) w]
 ·intro cx w r β
  simp [ReA, ReAs, ReC, ReCs, Rd, flat]
 ·simp only [List.replicate]
  simp only [pkS, TyB,  implies_true, forall_const, Nat.reduceSub, Nat.reduceEqDiff, Nat.reduceAdd, Nat.reduceMul, Nat.reduceLeDiff, Nat.reduceLT, Nat.reduceBEq, reduceCtorEq]
  repeat' (first | (with_reducible first | refine zaa _ _ ?_ | refine zaf ?_ | refine zah ?_) | rw [zai] | simp only [pkS, TyB, pkY, Int.reduceEq, bne_self_eq_false, Int.reduceBEq, Int.reduceBNe, implies_true, forall_const, Nat.reduceSub, Nat.reduceEqDiff, Nat.reduceAdd, Nat.reduceMul, Nat.reduceLeDiff, Nat.reduceLT, Nat.reduceBEq, reduceCtorEq] | refine zab ?_ | refine zad (fun hb => ?_) (fun hb => ?_) | (refine And.intro ?_ ?_; focus ((try with_reducible refine zaj ?_); first | (with_reducible rfl) | ((with_reducible first | refine zak ?_ | refine zae ?_ | refine zac ?_); kernel_rfl) | (intros; omega) | (intro q p; rw [q, p]; rfl) | (intro q; rw [q]; rfl) | (intro q; simp only [Bool.and_eq_true, decide_eq_true_eq, beq_iff_eq] at q; omega) | (intros; simp [List.range, List.range.loop]; done) | (intros; simp_all [List.range, List.range.loop]; done))) | refine And.intro (fun hg => ?_) (fun hg => ?_) | (with_reducible refine zac ?_; kernel_rfl) | fail)
abbrev asl (n : Nat) (ds : List D) : AV := .one (.d (.sl n ds))
abbrev rdr (n : Nat) (ds : List D) (p : Int) : List RO := [.d (.sl n ds), .d (iD p)]
theorem zd4 (n : Nat) (ds : List D) (p k : Nat) (hl : ds.length = n) (hn : n < 2 ^ 62) (h : p + k ≤ n) :
  CallOK Tryz.prog 128 [.obj (rdr n ds p), .f (ai k)] (fun r o => r = [.one (.d (.sl k ((ds.drop p).take k)))] ∧ o = [rdr n ds ((p + k : Nat) : Int)]) := by
 refine zaq zaB mixed (T := Ty) (n := 63) Tryz.func128 (c := Tryz.f128.body.getD .skip) rfl Tryz.results128 Tryz.ntmps128 Tryz.call128 ?_
 simp only [Tryz.f128, Option.getD]
 have h1 : decide ((p : Int) < 0) = false := by simp
 have h2 : decide ((p : Int) > (n : Int)) = false := by simp; omega
 have h3 : IntKind.i64.wrap ((n : Int) - (p : Int)) = (n : Int) - p := wrap64 (by omega) (by omega)
 have h4 : decide ((n : Int) - (p : Int) < (k : Int)) = false := by simp; omega
 have h5 : IntKind.i64.wrap ((p : Int) + (k : Int)) = ((p + k : Nat) : Int) := by rw [wrap64 (by omega) (by omega)]; omega
 have h6 : p + k - p = k := by omega
 repeat' (first | (with_reducible first | refine zaa _ _ ?_ | refine zaf ?_ | refine zah ?_) | rw [zai] | simp only [pkS, TyB, h1, h2, h3, h4, h5, h6, Int.toNat_natCast, hl, pkY, Int.reduceEq, bne_self_eq_false, Int.reduceBEq, Int.reduceBNe, implies_true, forall_const, Nat.reduceSub, Nat.reduceEqDiff, Nat.reduceAdd, Nat.reduceMul, Nat.reduceLeDiff, Nat.reduceLT, Nat.reduceBEq, reduceCtorEq] | refine zab ?_ | refine zad (fun hb => ?_) (fun hb => ?_) | (refine And.intro ?_ ?_; focus ((try with_reducible refine zaj ?_); first | (with_reducible rfl) | ((with_reducible first | refine zak ?_ | refine zae ?_ | refine zac ?_); kernel_rfl) | (intros; omega) | (intro q p; rw [q, p]; rfl) | (intro q; rw [q]; rfl) | (intro q; simp only [Bool.and_eq_true, decide_eq_true_eq, beq_iff_eq] at q; omega) | (intros; simp [List.range, List.range.loop]; done) | (intros; simp_all [List.range, List.range.loop]; done))) | refine And.intro (fun hg => ?_) (fun hg => ?_) | (with_reducible refine zac ?_; kernel_rfl) | fail)
def shortP (n : Nat) (p k : Int) : Bool := decide (p < 0) || decide (p > (n : Int)) || decide ((n : Int) - p < k)
theorem zes (n : Nat) (ds : List D) (p k : Int) (hl : ds.length = n) (hn : n < 2 ^ 62) (hp : i64 p) (h : shortP n p k = true) :
  CallPn Tryz.prog 128 [.obj (rdr n ds p), .f (ai k)] (faultV 177 2) := by
 refine zjg zaB mixed (T := Ty) (n := 63) Tryz.func128 (c := Tryz.f128.body.getD .skip) rfl Tryz.ntmps128 Tryz.call128 ?_
 simp only [Tryz.f128, Option.getD]
 unfold shortP at h
 cases h1 : decide (p < 0)
 ·cases h2 : decide (p > (n : Int))
  ·have h4 : decide ((n : Int) - p < k) = true := by rw [h1, h2] at h; simpa using h
   have h3 : IntKind.i64.wrap ((n : Int) - p) = (n : Int) - p := by
    simp at h1 h2
    exact wrap64 (by omega) (by omega)
   repeat' (first | (with_reducible first | refine zaa _ _ ?_ | refine zaf ?_ | refine zah ?_) | rw [zai] | simp only [pkS, TyB, h1, h2, h3, h4, zdV, hl, pkY, Int.reduceEq, bne_self_eq_false, Int.reduceBEq, Int.reduceBNe, implies_true, forall_const, Nat.reduceSub, Nat.reduceEqDiff, Nat.reduceAdd, Nat.reduceMul, Nat.reduceLeDiff, Nat.reduceLT, Nat.reduceBEq, reduceCtorEq] | refine zab ?_ | refine zad (fun hb => ?_) (fun hb => ?_) | (refine And.intro ?_ ?_; focus ((try with_reducible refine zaj ?_); first | (with_reducible rfl) | ((with_reducible first | refine zak ?_ | refine zae ?_ | refine zac ?_); kernel_rfl) | (intros; omega) | (intro q p; rw [q, p]; rfl) | (intro q; rw [q]; rfl) | (intro q; simp only [Bool.and_eq_true, decide_eq_true_eq, beq_iff_eq] at q; omega) | (intros; simp [List.range, List.range.loop]; done) | (intros; simp_all [List.range, List.range.loop]; done))) | refine And.intro (fun hg => ?_) (fun hg => ?_) | (with_reducible refine zac ?_; kernel_rfl) | fail)
  ·repeat' (first | (with_reducible first | refine zaa _ _ ?_ | refine zaf ?_ | refine zah ?_) | rw [zai] | simp only [pkS, TyB, h1, h2, zdV, hl, pkY, Int.reduceEq, bne_self_eq_false, Int.reduceBEq, Int.reduceBNe, implies_true, forall_const, Nat.reduceSub, Nat.reduceEqDiff, Nat.reduceAdd, Nat.reduceMul, Nat.reduceLeDiff, Nat.reduceLT, Nat.reduceBEq, reduceCtorEq] | refine zab ?_ | refine zad (fun hb => ?_) (fun hb => ?_) | (refine And.intro ?_ ?_; focus ((try with_reducible refine zaj ?_); first | (with_reducible rfl) | ((with_reducible first | refine zak ?_ | refine zae ?_ | refine zac ?_); kernel_rfl) | (intros; omega) | (intro q p; rw [q, p]; rfl) | (intro q; rw [q]; rfl) | (intro q; simp only [Bool.and_eq_true, decide_eq_true_eq, beq_iff_eq] at q; omega) | (intros; simp [List.range, List.range.loop]; done) | (intros; simp_all [List.range, List.range.loop]; done))) | refine And.intro (fun hg => ?_) (fun hg => ?_) | (with_reducible refine zac ?_; kernel_rfl) | fail)
 ·repeat' (first | (with_reducible first | refine zaa _ _ ?_ | refine zaf ?_ | refine zah ?_) | rw [zai] | simp only [pkS, TyB, h1, zdV, hl, pkY, Int.reduceEq, bne_self_eq_false, Int.reduceBEq, Int.reduceBNe, implies_true, forall_const, Nat.reduceSub, Nat.reduceEqDiff, Nat.reduceAdd, Nat.reduceMul, Nat.reduceLeDiff, Nat.reduceLT, Nat.reduceBEq, reduceCtorEq] | refine zab ?_ | refine zad (fun hb => ?_) (fun hb => ?_) | (refine And.intro ?_ ?_; focus ((try with_reducible refine zaj ?_); first | (with_reducible rfl) | ((with_reducible first | refine zak ?_ | refine zae ?_ | refine zac ?_); kernel_rfl) | (intros; omega) | (intro q p; rw [q, p]; rfl) | (intro q; rw [q]; rfl) | (intro q; simp only [Bool.and_eq_true, decide_eq_true_eq, beq_iff_eq] at q; omega) | (intros; simp [List.range, List.range.loop]; done) | (intros; simp_all [List.range, List.range.loop]; done))) | refine And.intro (fun hg => ?_) (fun hg => ?_) | (with_reducible refine zac ?_; kernel_rfl) | fail)
end Go.Proofs.YtiegkabcgokhkaaGreat
