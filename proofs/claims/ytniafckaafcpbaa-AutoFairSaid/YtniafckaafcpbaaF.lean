import Derived.Test.YtniafckaafcpbaaE
namespace Go.Proofs.Ytniafckaafcpbaa
open Go.Pk
set_option maxRecDepth 100000
set_option linter.unusedSimpArgs false
set_option linter.unusedVariables false
theorem zbj (l : List Int) (hl : l.length < 2 ^ 62) (v : Int) : CallOK Try.prog 63 [.f (al l.length (intsE l)), .f (ai v)] (fun r o => r = [ri (idxF (fun x => v == x) l 0)] ∧ o = []) := by
  refine zaq zaG mixed (T := Ty) (n := 19) Try.func63 (c := Try.f63.body.getD .skip) rfl Try.results63 Try.ntmps63 Try.call63 ?_
  simp only [Try.f63, Option.getD]
  repeat (first | with_reducible refine zaa _ _ ?_ | with_reducible refine And.imp_right (zaa _ _) ?_ | with_reducible refine And.imp_right (And.imp_right (zaa _ _)) ?_ | with_reducible refine And.imp_right (And.imp_right (And.imp_right (zaa _ _))) ?_ | rw [zae] | simp only [pkS, TyB,  implies_true, forall_const, Nat.reduceSub, Nat.reduceEqDiff, Nat.reduceAdd, Nat.reduceMul, Nat.reduceLeDiff, Nat.reduceLT, Nat.reduceBEq, reduceCtorEq])
  refine zaH (τ := Nat) (fun i => ⟨[al l.length (intsE l), ai v, dd, dd, ai 0, dd, al l.length (intsE l), ai l.length, ai i, dd, dd, dd, dd, dd, dd, dd, dd, dd, dd], []⟩) (fun i => i ≤ l.length) (fun i => idxF (fun x => v == x) (l.drop i) i) (fun i => l.length - i) 0 (Gh.fgt ?_) (Nat.zero_le _) ?_
  · simp only [zaQ, zaR, za6, Int.natCast_zero]
  intro i hi0 hF K hK
  repeat (first | with_reducible refine zaa _ _ ?_ | with_reducible refine And.imp_right (zaa _ _) ?_ | with_reducible refine And.imp_right (And.imp_right (zaa _ _)) ?_ | with_reducible refine And.imp_right (And.imp_right (And.imp_right (zaa _ _))) ?_ | rw [zae] | simp only [pkS, TyB,  implies_true, forall_const, Nat.reduceSub, Nat.reduceEqDiff, Nat.reduceAdd, Nat.reduceMul, Nat.reduceLeDiff, Nat.reduceLT, Nat.reduceBEq, reduceCtorEq])
  refine zad (fun hlt => ?_) (fun hge => ?_)
  · have hi : i < l.length := by simpa using hlt
    rw [List.drop_eq_getElem_cons hi, idxF] at hF
    have hat := zbX hi
    simp only [List.cons_append, List.nil_append] at hat
    have hw := zaI hi hl
    clear hlt
    repeat' (first | (with_reducible first | refine zaa _ _ ?_ | refine zah ?_ | refine zai ?_) | rw [zae] | simp only [pkS, TyB, zaE, hat, pkY, Int.reduceEq, bne_self_eq_false, Int.reduceBEq, Int.reduceBNe, implies_true, forall_const, Nat.reduceSub, Nat.reduceEqDiff, Nat.reduceAdd, Nat.reduceMul, Nat.reduceLeDiff, Nat.reduceLT, Nat.reduceBEq, reduceCtorEq] | refine zab ?_ | refine zad (fun hb => ?_) (fun hb => ?_) | (refine And.intro ?_ ?_; focus ((try with_reducible refine zal ?_); first | (with_reducible rfl) | ((with_reducible first | refine zam ?_ | refine zaf ?_ | refine zac ?_); kernel_rfl) | (intros; omega) | (intro q p; rw [q, p]; rfl) | (intro q; rw [q]; rfl) | (intro q; simp only [Bool.and_eq_true, decide_eq_true_eq, beq_iff_eq] at q; omega) | (intros; simp_all; done) | (intros; simp [List.range, List.range.loop]; done) | (intros; simp_all [List.range, List.range.loop]; done))) | refine And.intro (fun hg => ?_) (fun hg => ?_) | (with_reducible refine zac ?_; kernel_rfl) | fail)
    · rw [if_pos hb] at hF
      rw [hF]; rfl
    · rw [if_neg (by simp [hb])] at hF
      refine hK _ (i + 1) (Gh.fgt ?_) hi (by simp only [List.drop_eq_getElem_cons hi, idxF]; rw [if_neg (by simp [hb])]; rfl) (by omega)
      simp only [hw, zaQ, zaR, za6]
  · have hi : i = l.length := by
      have : ¬ (i : Int) < l.length := by simpa using hge
      omega
    rw [hi, List.drop_length, idxF] at hF
    repeat (first | with_reducible refine zaa _ _ ?_ | with_reducible refine And.imp_right (zaa _ _) ?_ | with_reducible refine And.imp_right (And.imp_right (zaa _ _)) ?_ | with_reducible refine And.imp_right (And.imp_right (And.imp_right (zaa _ _))) ?_ | rw [zae] | simp only [pkS, TyB,  implies_true, forall_const, Nat.reduceSub, Nat.reduceEqDiff, Nat.reduceAdd, Nat.reduceMul, Nat.reduceLeDiff, Nat.reduceLT, Nat.reduceBEq, reduceCtorEq])
    rw [hF]; rfl
theorem zaF (l : List Int) (hl : l.length < 2 ^ 62) (v : Int) : CallOK Try.prog 40 [.f (al l.length (intsE l)), .f (ai v)] (fun r o => r = [rb (l.any fun x => v == x)] ∧ o = []) := by
  refine zaq zaG mixed (T := Ty) (n := 9) Try.func40 (c := Try.f40.body.getD .skip) rfl Try.results40 Try.ntmps40 Try.call40 ?_
  simp only [Try.f40, Option.getD]
  repeat' (first | with_reducible refine zaa _ _ ?_ | rw [zae] | simp only [pkS, TyB,  implies_true, forall_const, Nat.reduceSub, Nat.reduceEqDiff, Nat.reduceAdd, Nat.reduceMul, Nat.reduceLeDiff, Nat.reduceLT, Nat.reduceBEq, reduceCtorEq] | ((try refine zak ?_); apply zan; (solve | exact (zbj l hl v) | (refine CallOK.le (zbj l hl v) ?_; simp [argsLe, aLe, csLe, cLe]))) | (apply zaj; (focus (intro _; (solve | exact (zbj l hl v) | (refine CallOK.le (zbj l hl v) ?_; simp [argsLe, aLe, csLe, cLe])))); (focus rfl)) | refine zab ?_ | refine zad (fun hb => ?_) (fun hb => ?_) | (refine And.intro ?_ ?_; focus ((try with_reducible refine zal ?_); first | (with_reducible rfl) | ((with_reducible first | refine zam ?_ | refine zaf ?_ | refine zac ?_); kernel_rfl) | (intros; omega) | (intro q p; rw [q, p]; rfl) | (intro q; rw [q]; rfl) | (intro q; simp only [Bool.and_eq_true, decide_eq_true_eq, beq_iff_eq] at q; omega) | (intros; simp_all; done) | (intros; simp [List.range, List.range.loop]; done) | (intros; simp_all [List.range, List.range.loop]; done))) | refine And.intro (fun hg => ?_) (fun hg => ?_) | (with_reducible refine zac ?_; kernel_rfl) | fail)
  rw [zdG]
theorem zb2 (v : Int) : CallOK Try.prog 86 [.f (ai v)] (fun r o => r = [rb false] ∧ o = []) := by
  refine zaq zaG mixed (T := Ty) (n := 6) Try.func86 (c := Try.f86.body.getD .skip) rfl Try.results86 Try.ntmps86 Try.call86 ?_
  simp only [Try.f86, Option.getD]
  repeat' (first | with_reducible refine zaa _ _ ?_ | rw [zae] | simp only [pkS, TyB, bne_self_eq_false, implies_true, forall_const, Nat.reduceSub, Nat.reduceEqDiff, Nat.reduceAdd, Nat.reduceMul, Nat.reduceLeDiff, Nat.reduceLT, Nat.reduceBEq, reduceCtorEq] | refine zab ?_ | refine zad (fun hb => ?_) (fun hb => ?_) | (refine And.intro ?_ ?_; focus ((try with_reducible refine zal ?_); first | (with_reducible rfl) | ((with_reducible first | refine zam ?_ | refine zaf ?_ | refine zac ?_); kernel_rfl) | (intros; omega) | (intro q p; rw [q, p]; rfl) | (intro q; rw [q]; rfl) | (intro q; simp only [Bool.and_eq_true, decide_eq_true_eq, beq_iff_eq] at q; omega) | (intros; simp_all; done) | (intros; simp [List.range, List.range.loop]; done) | (intros; simp_all [List.range, List.range.loop]; done))) | refine And.intro (fun hg => ?_) (fun hg => ?_) | (with_reducible refine zac ?_; kernel_rfl) | fail)
def cmpI (a b : Int) : Int := if a < b then -1 else if a > b then 1 else 0
theorem zbf (a b : Int) : CallOK Try.prog 67 [.f (ai a), .f (ai b)] (fun r o => r = [ri (cmpI a b)] ∧ o = []) := by
  refine zaq zaG mixed (T := Ty) (n := 20) Try.func67 (c := Try.f67.body.getD .skip) rfl Try.results67 Try.ntmps67 Try.call67 ?_
  simp only [Try.f67, Option.getD]
  repeat' (first | (with_reducible first | refine zaa _ _ ?_ | refine zah ?_ | refine zai ?_) | rw [zae] | simp only [pkS, TyB, pkY, Int.reduceEq, bne_self_eq_false, Int.reduceBEq, Int.reduceBNe, implies_true, forall_const, Nat.reduceSub, Nat.reduceEqDiff, Nat.reduceAdd, Nat.reduceMul, Nat.reduceLeDiff, Nat.reduceLT, Nat.reduceBEq, reduceCtorEq] | ((try refine zak ?_); apply zan; (solve | exact (zb2 a) | exact (zb2 b) | (refine CallOK.le (zb2 a) ?_; simp [argsLe, aLe, csLe, cLe]) | (refine CallOK.le (zb2 b) ?_; simp [argsLe, aLe, csLe, cLe]))) | (apply zaj; (focus (intro _; (solve | exact (zb2 a) | exact (zb2 b) | (refine CallOK.le (zb2 a) ?_; simp [argsLe, aLe, csLe, cLe]) | (refine CallOK.le (zb2 b) ?_; simp [argsLe, aLe, csLe, cLe])))); (focus rfl)) | refine zab ?_ | refine zad (fun hb => ?_) (fun hb => ?_) | (refine And.intro ?_ ?_; focus ((try with_reducible refine zal ?_); first | (with_reducible rfl) | ((with_reducible first | refine zam ?_ | refine zaf ?_ | refine zac ?_); kernel_rfl) | (intros; omega) | (intro q p; rw [q, p]; rfl) | (intro q; rw [q]; rfl) | (intro q; simp only [Bool.and_eq_true, decide_eq_true_eq, beq_iff_eq] at q; omega) | (intros; simp_all; done) | (intros; simp [List.range, List.range.loop]; done) | (intros; simp_all [List.range, List.range.loop]; done))) | refine And.intro (fun hg => ?_) (fun hg => ?_) | (with_reducible refine zac ?_; kernel_rfl) | fail)
  all_goals simp only [decide_eq_true_eq, decide_eq_false_iff_not] at *
  · unfold cmpI; rw [if_pos (by assumption)]
  · unfold cmpI; rw [if_neg (by assumption), if_pos (by assumption)]
  · unfold cmpI; rw [if_neg (by assumption), if_neg (by assumption)]
theorem zbu (n : Int) : CallOK Try.prog 80 [.f (ai n)] (fun r o => r = [rb (decide (n ≥ 0) && decide (n < 8))] ∧ o = []) := by
  refine zaq zaG mixed (T := Ty) (n := 9) Try.func80 (c := Try.f80.body.getD .skip) rfl Try.results80 Try.ntmps80 Try.call80 ?_
  simp only [Try.f80, Option.getD]
  repeat' (first | (with_reducible first | refine zaa _ _ ?_ | refine zah ?_ | refine zai ?_) | rw [zae] | simp only [pkS, TyB, pkY, Int.reduceEq, bne_self_eq_false, Int.reduceBEq, Int.reduceBNe, implies_true, forall_const, Nat.reduceSub, Nat.reduceEqDiff, Nat.reduceAdd, Nat.reduceMul, Nat.reduceLeDiff, Nat.reduceLT, Nat.reduceBEq, reduceCtorEq] | refine zab ?_ | refine zad (fun hb => ?_) (fun hb => ?_) | (refine And.intro ?_ ?_; focus ((try with_reducible refine zal ?_); first | (with_reducible rfl) | ((with_reducible first | refine zam ?_ | refine zaf ?_ | refine zac ?_); kernel_rfl) | (intros; omega) | (intro q p; rw [q, p]; rfl) | (intro q; rw [q]; rfl) | (intro q; simp only [Bool.and_eq_true, decide_eq_true_eq, beq_iff_eq] at q; omega) | (intros; simp_all; done) | (intros; simp [List.range, List.range.loop]; done) | (intros; simp_all [List.range, List.range.loop]; done))) | refine And.intro (fun hg => ?_) (fun hg => ?_) | (with_reducible refine zac ?_; kernel_rfl) | fail)
theorem zdE (n : Int) : CallOK Try.prog 53 [.f (ai n)] (fun r o => r = [rb (decide (n ≥ 0) && decide (n < 8))] ∧ o = []) := by
  refine zaq zaG mixed (T := Ty) (n := 9) Try.func53 (c := Try.f53.body.getD .skip) rfl Try.results53 Try.ntmps53 Try.call53 ?_
  simp only [Try.f53, Option.getD]
  repeat' (first | (with_reducible first | refine zaa _ _ ?_ | refine zah ?_ | refine zai ?_) | rw [zae] | simp only [pkS, TyB, pkY, Int.reduceEq, bne_self_eq_false, Int.reduceBEq, Int.reduceBNe, implies_true, forall_const, Nat.reduceSub, Nat.reduceEqDiff, Nat.reduceAdd, Nat.reduceMul, Nat.reduceLeDiff, Nat.reduceLT, Nat.reduceBEq, reduceCtorEq] | refine zab ?_ | refine zad (fun hb => ?_) (fun hb => ?_) | (refine And.intro ?_ ?_; focus ((try with_reducible refine zal ?_); first | (with_reducible rfl) | ((with_reducible first | refine zam ?_ | refine zaf ?_ | refine zac ?_); kernel_rfl) | (intros; omega) | (intro q p; rw [q, p]; rfl) | (intro q; rw [q]; rfl) | (intro q; simp only [Bool.and_eq_true, decide_eq_true_eq, beq_iff_eq] at q; omega) | (intros; simp_all; done) | (intros; simp [List.range, List.range.loop]; done) | (intros; simp_all [List.range, List.range.loop]; done))) | refine And.intro (fun hg => ?_) (fun hg => ?_) | (with_reducible refine zac ?_; kernel_rfl) | fail)
def isClient (n : Int) : Bool := decide (n ≥ 0) && decide (n < 8)
def hasI (l : List Int) (v : Int) : Bool := l.any fun x => v == x
theorem ahead_ok (l : List Int) (hl : l.length < 2 ^ 62) (c : Int) : CallOK Try.prog 72 [.f (al l.length (intsE l)), .f (ai c)]
    (fun r o => r = [ri (if idxF (fun x => c == x) l 0 ≥ 0 then idxF (fun x => c == x) l 0 else 0), rb (hasI l c)] ∧ o = []) := by
  refine zaq zaG mixed (T := Ty) (n := 13) Try.func72 (c := Try.f72.body.getD .skip) rfl Try.results72 Try.ntmps72 Try.call72 ?_
  simp only [Try.f72, Option.getD]
  have hh := zdG (fun x => c == x) l
  repeat' (first | (with_reducible first | refine zaa _ _ ?_ | refine zah ?_ | refine zai ?_) | rw [zae] | simp only [pkS, TyB, pkY, Int.reduceEq, bne_self_eq_false, Int.reduceBEq, Int.reduceBNe, implies_true, forall_const, Nat.reduceSub, Nat.reduceEqDiff, Nat.reduceAdd, Nat.reduceMul, Nat.reduceLeDiff, Nat.reduceLT, Nat.reduceBEq, reduceCtorEq] | ((try refine zak ?_); apply zan; (solve | exact (zbj l hl c) | (refine CallOK.le (zbj l hl c) ?_; simp [argsLe, aLe, csLe, cLe]))) | (apply zaj; (focus (intro _; (solve | exact (zbj l hl c) | (refine CallOK.le (zbj l hl c) ?_; simp [argsLe, aLe, csLe, cLe])))); (focus rfl)) | refine zab ?_ | refine zad (fun hb => ?_) (fun hb => ?_) | (refine And.intro ?_ ?_; focus ((try with_reducible refine zal ?_); first | (with_reducible rfl) | ((with_reducible first | refine zam ?_ | refine zaf ?_ | refine zac ?_); kernel_rfl) | (intros; omega) | (intro q p; rw [q, p]; rfl) | (intro q; rw [q]; rfl) | (intro q; simp only [Bool.and_eq_true, decide_eq_true_eq, beq_iff_eq] at q; omega) | (intros; simp_all; done) | (intros; simp [List.range, List.range.loop]; done) | (intros; simp_all [List.range, List.range.loop]; done))) | refine And.intro (fun hg => ?_) (fun hg => ?_) | (with_reducible refine zac ?_; kernel_rfl) | fail)
  · rw [hb] at hh
    unfold hasI
    rw [← hh, if_pos (by simpa using hb)]
  · rw [hb] at hh
    unfold hasI
    rw [← hh, if_neg (by simpa using hb)]
theorem rfs3 {a b c a' b' c' : RO} : rfsLe [.one a, .one b, .one c] [.one a', .one b', .one c'] = (roLe a a' ∧ roLe b b' ∧ roLe c c' ∧ True) := rfl
def rowI (l : List Int) : RF := .one (.own 1 l.length (intsE l) false)
def joinP (l : List Int) (c : Int) : List Int × Int × Int :=
  if (!isClient c) = true then ([], 0, 1) else if hasI l c = true then ([], 0, 7) else if decide ((l.length : Int) ≥ 3) = true then ([], 0, 5) else (l ++ [c], l.length, 0)
theorem join_ok (l : List Int) (hl : l.length < 2 ^ 30) (c : Int) : CallOK Try.prog 73 [.f (al l.length (intsE l)), .f (ai c)]
    (fun r o => r = [rowI (joinP l c).1, ri (joinP l c).2.1, ri (joinP l c).2.2] ∧ o = []) := by
  refine CallOK.nil ?_
  refine zaq zaG mixed (T := Ty) (n := 26) Try.func73 (c := Try.f73.body.getD .skip) rfl Try.results73 Try.ntmps73 Try.call73 ?_
  simp only [Try.f73, Option.getD]
  have hcl := zcf l.length (intsE l) zaE (by omega)
  repeat' (first | (with_reducible first | refine zaa _ _ ?_ | refine zah ?_ | refine zai ?_) | rw [zae] | simp only [pkS, TyB, zaE, pkY, Int.reduceEq, bne_self_eq_false, Int.reduceBEq, Int.reduceBNe, implies_true, forall_const, Nat.reduceSub, Nat.reduceEqDiff, Nat.reduceAdd, Nat.reduceMul, Nat.reduceLeDiff, Nat.reduceLT, Nat.reduceBEq, reduceCtorEq] | ((try refine zak ?_); apply zan; (solve | exact (zbu c) | exact (zaF l (by omega) c) | exact (hcl) | (refine CallOK.le (zbu c) ?_; simp [argsLe, aLe, csLe, cLe]) | (refine CallOK.le (zaF l (by omega) c) ?_; simp [argsLe, aLe, csLe, cLe]) | (refine CallOK.le (hcl) ?_; simp [argsLe, aLe, csLe, cLe]))) | (apply zaj; (focus (intro _; (solve | exact (zbu c) | exact (zaF l (by omega) c) | exact (hcl) | (refine CallOK.le (zbu c) ?_; simp [argsLe, aLe, csLe, cLe]) | (refine CallOK.le (zaF l (by omega) c) ?_; simp [argsLe, aLe, csLe, cLe]) | (refine CallOK.le (hcl) ?_; simp [argsLe, aLe, csLe, cLe])))); (focus rfl)) | refine zab ?_ | refine zad (fun hb => ?_) (fun hb => ?_) | (refine And.intro ?_ ?_; focus ((try with_reducible refine zal ?_); first | (with_reducible rfl) | ((with_reducible first | refine zam ?_ | refine zaf ?_ | refine zac ?_); kernel_rfl) | (intros; omega) | (intro q p; rw [q, p]; rfl) | (intro q; rw [q]; rfl) | (intro q; simp only [Bool.and_eq_true, decide_eq_true_eq, beq_iff_eq] at q; omega) | (intros; simp_all; done) | (intros; simp [List.range, List.range.loop]; done) | (intros; simp_all [List.range, List.range.loop]; done))) | refine And.intro (fun hg => ?_) (fun hg => ?_) | (with_reducible refine zac ?_; kernel_rfl) | fail)
  all_goals unfold isClient joinP hasI isClient at *
  · rw [if_pos hb]; simp [rfs3, rowI, roLe]
  · rename_i hc
    rw [if_neg (by rw [hc]; simp), if_pos hb]; simp [rfs3, rowI, roLe]
  · rename_i hc hh
    rw [if_neg (by rw [hc]; simp), if_neg (by rw [hh]; simp), if_pos hb]; simp [rfs3, rowI, roLe]
  · rename_i hc hh
    rw [if_neg (by rw [hc]; simp), if_neg (by rw [hh]; simp), if_neg (by rw [hb]; simp)]; simp [rfs3, rowI, roLe]
theorem drop_ints {l : List Int} {i : Nat} (hi : i ≤ l.length) : (intsE l).drop i = intsE (l.drop i) := by have := zej (fun n => [iD n]) 1 (fun _ => rfl) hi; rwa [Nat.mul_one] at this
theorem zgQ {l : List Int} {i : Nat} (hi : i ≤ l.length) : (intsE l).take i = intsE (l.take i) := by have := zbN (fun n => [iD n]) 1 (fun _ => rfl) hi; rwa [Nat.mul_one] at this
def leaveP (l : List Int) (c : Int) : List Int × Bool := if idxF (fun x => c == x) l 0 < 0 then (l, false) else (l.eraseIdx (idxF (fun x => c == x) l 0).toNat, true)
theorem leave_ok (l : List Int) (hl : l.length < 2 ^ 30) (c : Int) : CallOK Try.prog 74 [.f (al l.length (intsE l)), .f (ai c)]
    (fun r o => r = [rowI (leaveP l c).1, rb (leaveP l c).2] ∧ o = []) := by
  refine zaq zaG mixed (T := Ty) (n := 20) Try.func74 (c := Try.f74.body.getD .skip) rfl Try.results74 Try.ntmps74 Try.call74 ?_
  simp only [Try.f74, Option.getD]
  have hcl := zcf l.length (intsE l) zaE (by omega)
  rcases zdF (fun x => c == x) l 0 with ⟨h1, h2⟩ | ⟨k, hk, h1, h2, h3⟩
  · have hi := zbj l (by omega) c
    rw [show ((0 : Nat) : Int) = 0 from rfl] at h2
    rw [h2] at hi
    have hlt : decide ((-1 : Int) < 0) = true := rfl
    repeat' (first | (with_reducible first | refine zaa _ _ ?_ | refine zah ?_ | refine zai ?_) | rw [zae] | simp only [pkS, TyB, zaE, hlt, pkY, Int.reduceEq, bne_self_eq_false, Int.reduceBEq, Int.reduceBNe, implies_true, forall_const, Nat.reduceSub, Nat.reduceEqDiff, Nat.reduceAdd, Nat.reduceMul, Nat.reduceLeDiff, Nat.reduceLT, Nat.reduceBEq, reduceCtorEq] | ((try refine zak ?_); apply zan; (solve | exact (hi) | exact (hcl) | (refine CallOK.le (hi) ?_; simp [argsLe, aLe, csLe, cLe]) | (refine CallOK.le (hcl) ?_; simp [argsLe, aLe, csLe, cLe]))) | (apply zaj; (focus (intro _; (solve | exact (hi) | exact (hcl) | (refine CallOK.le (hi) ?_; simp [argsLe, aLe, csLe, cLe]) | (refine CallOK.le (hcl) ?_; simp [argsLe, aLe, csLe, cLe])))); (focus rfl)) | refine zab ?_ | refine zad (fun hb => ?_) (fun hb => ?_) | (refine And.intro ?_ ?_; focus ((try with_reducible refine zal ?_); first | (with_reducible rfl) | ((with_reducible first | refine zam ?_ | refine zaf ?_ | refine zac ?_); kernel_rfl) | (intros; omega) | (intro q p; rw [q, p]; rfl) | (intro q; rw [q]; rfl) | (intro q; simp only [Bool.and_eq_true, decide_eq_true_eq, beq_iff_eq] at q; omega) | (intros; simp_all; done) | (intros; simp [List.range, List.range.loop]; done) | (intros; simp_all [List.range, List.range.loop]; done))) | refine And.intro (fun hg => ?_) (fun hg => ?_) | (with_reducible refine zac ?_; kernel_rfl) | fail)
    unfold leaveP
    rw [h2, if_pos (by decide)]
    rfl
  · have hi := zbj l (by omega) c
    rw [show ((0 : Nat) : Int) = 0 from rfl, Nat.zero_add] at h1
    rw [h1] at hi
    have hlt : decide ((k : Int) < 0) = false := by simp
    have hw := zaI hk (by omega)
    obtain ⟨n, hn⟩ : ∃ n, l.length = n + 1 := ⟨l.length - 1, by omega⟩
    have hdl := delInt_ok n k (intsE l) (by rw [zaE, hn]) (by omega) (by omega)
    rw [hn] at hi hcl hk
    have hll : (intsE l).length = n + 1 := by rw [zaE, hn]
    rw [hn]
    repeat' (first | (with_reducible first | refine zaa _ _ ?_ | refine zah ?_ | refine zai ?_) | rw [zae] | simp only [pkS, TyB, hlt, hw, hll, pkY, Int.reduceEq, bne_self_eq_false, Int.reduceBEq, Int.reduceBNe, implies_true, forall_const, Nat.reduceSub, Nat.reduceEqDiff, Nat.reduceAdd, Nat.reduceMul, Nat.reduceLeDiff, Nat.reduceLT, Nat.reduceBEq, reduceCtorEq] | ((try refine zak ?_); apply zan; (solve | exact (hi) | exact (hcl) | (refine CallOK.le (hi) ?_; simp [argsLe, aLe, csLe, cLe]) | (refine CallOK.le (hcl) ?_; simp [argsLe, aLe, csLe, cLe]))) | (apply zaj; (focus (intro _; (solve | exact (hi) | exact (hcl) | (refine CallOK.le (hi) ?_; simp [argsLe, aLe, csLe, cLe]) | (refine CallOK.le (hcl) ?_; simp [argsLe, aLe, csLe, cLe])))); (focus rfl)) | refine zab ?_ | refine zad (fun hb => ?_) (fun hb => ?_) | (refine And.intro ?_ ?_; focus ((try with_reducible refine zal ?_); first | (with_reducible rfl) | ((with_reducible first | refine zam ?_ | refine zaf ?_ | refine zac ?_); kernel_rfl) | (intros; omega) | (intro q p; rw [q, p]; rfl) | (intro q; rw [q]; rfl) | (intro q; simp only [Bool.and_eq_true, decide_eq_true_eq, beq_iff_eq] at q; omega) | (intros; simp_all; done) | (intros; simp [List.range, List.range.loop]; done) | (intros; simp_all [List.range, List.range.loop]; done))) | refine And.intro (fun hg => ?_) (fun hg => ?_) | (with_reducible refine zac ?_; kernel_rfl) | fail)
    refine zbb (mv := ?mv1) (lent := ?le1) 0 ?ha1 (hdl) ?hb1 ?hc1
    case ha1 => (try simp only [pkS, TyB, zaC, implies_true, forall_const, Nat.reduceSub, Nat.reduceEqDiff, Nat.reduceAdd, Nat.reduceMul, Nat.reduceLeDiff, Nat.reduceLT, Nat.reduceBEq, reduceCtorEq]); exact rfl
    case hb1 => (try simp only [pkS, TyB, scM, implies_true, forall_const, Nat.reduceSub, Nat.reduceEqDiff, Nat.reduceAdd, Nat.reduceMul, Nat.reduceLeDiff, Nat.reduceLT, Nat.reduceBEq, reduceCtorEq]); repeat' (first | rfl | trivial | omega | with_reducible refine And.intro ?_ ?_)
    show aops _ _ _ _ _ _ _ _
    repeat' (first | (with_reducible first | refine zaa _ _ ?_ | refine zah ?_ | refine zai ?_) | rw [zae] | simp only [pkS, TyB, pkY, Int.reduceEq, bne_self_eq_false, Int.reduceBEq, Int.reduceBNe, implies_true, forall_const, Nat.reduceSub, Nat.reduceEqDiff, Nat.reduceAdd, Nat.reduceMul, Nat.reduceLeDiff, Nat.reduceLT, Nat.reduceBEq, reduceCtorEq] | refine zab ?_ | refine zad (fun hb => ?_) (fun hb => ?_) | (refine And.intro ?_ ?_; focus ((try with_reducible refine zal ?_); first | (with_reducible rfl) | ((with_reducible first | refine zam ?_ | refine zaf ?_ | refine zac ?_); kernel_rfl) | (intros; omega) | (intro q p; rw [q, p]; rfl) | (intro q; rw [q]; rfl) | (intro q; simp only [Bool.and_eq_true, decide_eq_true_eq, beq_iff_eq] at q; omega) | (intros; simp_all; done) | (intros; simp [List.range, List.range.loop]; done) | (intros; simp_all [List.range, List.range.loop]; done))) | refine And.intro (fun hg => ?_) (fun hg => ?_) | (with_reducible refine zac ?_; kernel_rfl) | fail)
    unfold leaveP
    rw [h1, if_neg (by omega), Int.toNat_natCast]
    have he : (l.eraseIdx k).length = n := by rw [List.length_eraseIdx]; split <;> omega
    have hx : intsE (l.eraseIdx k) = List.take k (intsE l) ++ List.drop (k + 1) (intsE l) := by
      rw [List.eraseIdx_eq_take_drop_succ, zgQ (by omega), drop_ints (by omega)]
      simp [intsE]
    simp only [rowI, he, hx]
def withoutP (l gone : List Int) : List Int := l.filter fun c => !hasI gone c
theorem zhu (gone : List Int) (hg : gone.length < 2 ^ 62) (c : Int) : CallOK Try.prog 83 [.f (ai c), .f (.one (.eltR [.lent gone.length (intsE gone)]))] (fun r o => r = [rb (hasI gone c)] ∧ o = []) := by
  refine zaq zaG mixed (T := Ty) (n := 7) Try.func83 (c := Try.f83.body.getD .skip) rfl Try.results83 Try.ntmps83 Try.call83 ?_
  simp only [Try.f83, Option.getD]
  repeat' (first | (with_reducible first | refine zaa _ _ ?_ | refine zah ?_ | refine zai ?_) | rw [zae] | simp only [pkS, TyB, pkY, Int.reduceEq, bne_self_eq_false, Int.reduceBEq, Int.reduceBNe, implies_true, forall_const, Nat.reduceSub, Nat.reduceEqDiff, Nat.reduceAdd, Nat.reduceMul, Nat.reduceLeDiff, Nat.reduceLT, Nat.reduceBEq, reduceCtorEq] | ((try refine zak ?_); apply zan; (solve | exact (zaF gone hg c) | exact (CallOK.le (zaF gone hg c) (by simp [argsLe, aLe, csLe, cLe])) | (refine CallOK.le (zaF gone hg c) ?_; simp [argsLe, aLe, csLe, cLe]) | (refine CallOK.le (CallOK.le (zaF gone hg c) (by simp [argsLe, aLe, csLe, cLe])) ?_; simp [argsLe, aLe, csLe, cLe]))) | (apply zaj; (focus (intro _; (solve | exact (zaF gone hg c) | exact (CallOK.le (zaF gone hg c) (by simp [argsLe, aLe, csLe, cLe])) | (refine CallOK.le (zaF gone hg c) ?_; simp [argsLe, aLe, csLe, cLe]) | (refine CallOK.le (CallOK.le (zaF gone hg c) (by simp [argsLe, aLe, csLe, cLe])) ?_; simp [argsLe, aLe, csLe, cLe])))); (focus rfl)) | refine zab ?_ | refine zad (fun hb => ?_) (fun hb => ?_) | (refine And.intro ?_ ?_; focus ((try with_reducible refine zal ?_); first | (with_reducible rfl) | ((with_reducible first | refine zam ?_ | refine zaf ?_ | refine zac ?_); kernel_rfl) | (intros; omega) | (intro q p; rw [q, p]; rfl) | (intro q; rw [q]; rfl) | (intro q; simp only [Bool.and_eq_true, decide_eq_true_eq, beq_iff_eq] at q; omega) | (intros; simp_all; done) | (intros; simp [List.range, List.range.loop]; done) | (intros; simp_all [List.range, List.range.loop]; done))) | refine And.intro (fun hg => ?_) (fun hg => ?_) | (with_reducible refine zac ?_; kernel_rfl) | fail)
  rfl
theorem without_ok (l gone : List Int) (hl : l.length < 2 ^ 30) (hg : gone.length < 2 ^ 30) : CallOK Try.prog 60 [.f (al l.length (intsE l)), .f (al gone.length (intsE gone))] (fun r o => r = [rowI (withoutP l gone)] ∧ o = []) := by
  refine zaq zaG mixed (T := Ty) (n := 9) Try.func60 (c := Try.f60.body.getD .skip) rfl Try.results60 Try.ntmps60 Try.call60 ?_
  simp only [Try.f60, Option.getD]
  have hcl := zcf l.length (intsE l) zaE (by omega)
  have hd := delf_int l (by omega) (hasI gone) 83 [.eltR [.lent gone.length (intsE gone)]] (fun _ => rfl) (fun _ => rfl) (fun _ _ => rfl) (fun _ => rfl) (fun x _ => zhu gone (by omega) x)
  repeat' (first | (with_reducible first | refine zaa _ _ ?_ | refine zah ?_ | refine zai ?_) | rw [zae] | simp only [pkS, TyB, zaE, pkY, Int.reduceEq, bne_self_eq_false, Int.reduceBEq, Int.reduceBNe, implies_true, forall_const, Nat.reduceSub, Nat.reduceEqDiff, Nat.reduceAdd, Nat.reduceMul, Nat.reduceLeDiff, Nat.reduceLT, Nat.reduceBEq, reduceCtorEq] | ((try refine zak ?_); apply zan; (solve | exact (hcl) | (refine CallOK.le (hcl) ?_; simp [argsLe, aLe, csLe, cLe]))) | (apply zaj; (focus (intro _; (solve | exact (hcl) | (refine CallOK.le (hcl) ?_; simp [argsLe, aLe, csLe, cLe])))); (focus rfl)) | refine zab ?_ | refine zad (fun hb => ?_) (fun hb => ?_) | (refine And.intro ?_ ?_; focus ((try with_reducible refine zal ?_); first | (with_reducible rfl) | ((with_reducible first | refine zam ?_ | refine zaf ?_ | refine zac ?_); kernel_rfl) | (intros; omega) | (intro q p; rw [q, p]; rfl) | (intro q; rw [q]; rfl) | (intro q; simp only [Bool.and_eq_true, decide_eq_true_eq, beq_iff_eq] at q; omega) | (intros; simp_all; done) | (intros; simp [List.range, List.range.loop]; done) | (intros; simp_all [List.range, List.range.loop]; done))) | refine And.intro (fun hg => ?_) (fun hg => ?_) | (with_reducible refine zac ?_; kernel_rfl) | fail)
  refine zbb (mv := ?mv2) (lent := ?le2) 0 ?ha2 (hd) ?hb2 ?hc2
  case ha2 => (try simp only [pkS, TyB, zaC, implies_true, forall_const, Nat.reduceSub, Nat.reduceEqDiff, Nat.reduceAdd, Nat.reduceMul, Nat.reduceLeDiff, Nat.reduceLT, Nat.reduceBEq, reduceCtorEq]); exact rfl
  case hb2 => (try simp only [pkS, TyB, scM, implies_true, forall_const, Nat.reduceSub, Nat.reduceEqDiff, Nat.reduceAdd, Nat.reduceMul, Nat.reduceLeDiff, Nat.reduceLT, Nat.reduceBEq, reduceCtorEq]); repeat' (first | rfl | trivial | omega | with_reducible refine And.intro ?_ ?_)
  show aops _ _ _ _ _ _ _ _
  repeat' (first | (with_reducible first | refine zaa _ _ ?_ | refine zah ?_ | refine zai ?_) | rw [zae] | simp only [pkS, TyB, pkY, Int.reduceEq, bne_self_eq_false, Int.reduceBEq, Int.reduceBNe, implies_true, forall_const, Nat.reduceSub, Nat.reduceEqDiff, Nat.reduceAdd, Nat.reduceMul, Nat.reduceLeDiff, Nat.reduceLT, Nat.reduceBEq, reduceCtorEq] | refine zab ?_ | refine zad (fun hb => ?_) (fun hb => ?_) | (refine And.intro ?_ ?_; focus ((try with_reducible refine zal ?_); first | (with_reducible rfl) | ((with_reducible first | refine zam ?_ | refine zaf ?_ | refine zac ?_); kernel_rfl) | (intros; omega) | (intro q p; rw [q, p]; rfl) | (intro q; rw [q]; rfl) | (intro q; simp only [Bool.and_eq_true, decide_eq_true_eq, beq_iff_eq] at q; omega) | (intros; simp_all; done) | (intros; simp [List.range, List.range.loop]; done) | (intros; simp_all [List.range, List.range.loop]; done))) | refine And.intro (fun hg => ?_) (fun hg => ?_) | (with_reducible refine zac ?_; kernel_rfl) | fail)
  rfl
end Go.Proofs.Ytniafckaafcpbaa
