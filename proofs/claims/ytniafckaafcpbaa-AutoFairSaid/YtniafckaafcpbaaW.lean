import Derived.Test.YtniafckaafcpbaaM
import Derived.Test.YtniafckaafcpbaaO
namespace Go.Proofs.Ytniafckaafcpbaa
open Go.Pk
set_option maxRecDepth 100000
set_option linter.unusedSimpArgs false
set_option linter.unusedVariables false
theorem beq_sym {a b : Int} : (a == b) = (b == a) := by rw [Bool.eq_iff_iff, beq_iff_eq, beq_iff_eq]; exact eq_comm
theorem in_ok (l : List Int) (hl : l.length < 2 ^ 62) (x : Int) : CallOK Try.prog 11 [.f (al l.length (intsE l)), .f (ai x)] (fun r o => r = [rb (hasI l x)] ∧ o = []) := by
  refine zaq zaG mixed (T := Ty) (n := 18) Try.func11 (c := Try.f11.body.getD .skip) rfl Try.results11 Try.ntmps11 Try.call11 ?_
  simp only [Try.f11, Option.getD]
  repeat' (first | (with_reducible first | refine zaa _ _ ?_ | refine zah ?_ | refine zai ?_) | rw [zae] | simp only [pkS, TyB, pkY, Int.reduceEq, bne_self_eq_false, Int.reduceBEq, Int.reduceBNe, implies_true, forall_const, Nat.reduceSub, Nat.reduceEqDiff, Nat.reduceAdd, Nat.reduceMul, Nat.reduceLeDiff, Nat.reduceLT, Nat.reduceBEq, reduceCtorEq] | refine zab ?_ | refine zad (fun hb => ?_) (fun hb => ?_) | (refine And.intro ?_ ?_; focus ((try with_reducible refine zal ?_); first | (with_reducible rfl) | ((with_reducible first | refine zam ?_ | refine zaf ?_ | refine zac ?_); kernel_rfl) | (intros; omega) | (intro q p; rw [q, p]; rfl) | (intro q; rw [q]; rfl) | (intro q; simp only [Bool.and_eq_true, decide_eq_true_eq, beq_iff_eq] at q; omega) | (intros; simp_all; done) | (intros; simp [List.range, List.range.loop]; done) | (intros; simp_all [List.range, List.range.loop]; done))) | refine And.intro (fun hg => ?_) (fun hg => ?_) | (with_reducible refine zac ?_; kernel_rfl) | fail)
  refine zaH (τ := Nat) (fun i => ⟨[al l.length (intsE l), ai x, dd, dd, dd, ai i, dd, dd, dd, dd, dd, dd, dd, dd, dd, dd, dd, dd], []⟩)
    (fun i => i ≤ l.length) (fun i => hasI (l.drop i) x) (fun i => l.length - i) 0
    (Gh.canon [] [] [] (by simp only [zar, zaz, zas, zat, zau, zav, List.set_cons_zero, List.set_cons_succ, and_true, true_and, Int.natCast_zero, Int.cast_ofNat_Int, D.v.injEq, Value.int.injEq]; try (repeat' (first | rfl | omega | with_reducible apply And.intro))) rfl rfl) (Nat.zero_le _) ?_
  intro i hi0 hF K hK
  rw [List.drop_zero] at hF
  repeat (first | with_reducible refine zaa _ _ ?_ | with_reducible refine And.imp_right (zaa _ _) ?_ | with_reducible refine And.imp_right (And.imp_right (zaa _ _)) ?_ | with_reducible refine And.imp_right (And.imp_right (And.imp_right (zaa _ _))) ?_ | rw [zae] | simp only [pkS, TyB,  implies_true, forall_const, Nat.reduceSub, Nat.reduceEqDiff, Nat.reduceAdd, Nat.reduceMul, Nat.reduceLeDiff, Nat.reduceLT, Nat.reduceBEq, reduceCtorEq])
  refine zad (fun hlt => ?_) (fun hge => ?_)
  · have hi : i < l.length := by simpa using hlt
    have hat := zbX hi
    have hw := zaI hi hl
    have hq : hasI (l.drop i) x = (l[i] == x || hasI (l.drop (i + 1)) x) := by rw [List.drop_eq_getElem_cons hi]; unfold hasI; rw [List.any_cons, beq_sym]
    rw [hq] at hF
    repeat' (first | (with_reducible first | refine zaa _ _ ?_ | refine zah ?_ | refine zai ?_) | rw [zae] | simp only [pkS, TyB, hat, List.cons_append, List.nil_append, zaE, pkY, Int.reduceEq, bne_self_eq_false, Int.reduceBEq, Int.reduceBNe, implies_true, forall_const, Nat.reduceSub, Nat.reduceEqDiff, Nat.reduceAdd, Nat.reduceMul, Nat.reduceLeDiff, Nat.reduceLT, Nat.reduceBEq, reduceCtorEq] | refine zab ?_ | refine zad (fun hb => ?_) (fun hb => ?_) | (refine And.intro ?_ ?_; focus ((try with_reducible refine zal ?_); first | (with_reducible rfl) | ((with_reducible first | refine zam ?_ | refine zaf ?_ | refine zac ?_); kernel_rfl) | (intros; omega) | (intro q p; rw [q, p]; rfl) | (intro q; rw [q]; rfl) | (intro q; simp only [Bool.and_eq_true, decide_eq_true_eq, beq_iff_eq] at q; omega) | (intros; simp_all; done) | (intros; simp [List.range, List.range.loop]; done) | (intros; simp_all [List.range, List.range.loop]; done))) | refine And.intro (fun hg => ?_) (fun hg => ?_) | (with_reducible refine zac ?_; kernel_rfl) | fail)
    · rw [hb] at hF
      rw [← hF]; rfl
    · rw [hb] at hq
      exact hK _ (i + 1) (Gh.canon [] [] [] (by simp only [hw, zar, zaz, zas, zat, zau, zav, List.set_cons_zero, List.set_cons_succ, and_true, true_and, Int.natCast_zero, Int.cast_ofNat_Int, D.v.injEq, Value.int.injEq]; try (repeat' (first | rfl | omega | with_reducible apply And.intro))) rfl rfl) hi (by rw [hq]; rfl) (by omega)
  · have hi : i = l.length := by
      have : ¬ (i : Int) < l.length := by simpa using hge
      omega
    rw [hi, List.drop_length] at hF
    rw [← hF]
    repeat' (first | (with_reducible first | refine zaa _ _ ?_ | refine zah ?_ | refine zai ?_) | rw [zae] | simp only [pkS, TyB, pkY, Int.reduceEq, bne_self_eq_false, Int.reduceBEq, Int.reduceBNe, implies_true, forall_const, Nat.reduceSub, Nat.reduceEqDiff, Nat.reduceAdd, Nat.reduceMul, Nat.reduceLeDiff, Nat.reduceLT, Nat.reduceBEq, reduceCtorEq] | refine zab ?_ | refine zad (fun hb => ?_) (fun hb => ?_) | (refine And.intro ?_ ?_; focus ((try with_reducible refine zal ?_); first | (with_reducible rfl) | ((with_reducible first | refine zam ?_ | refine zaf ?_ | refine zac ?_); kernel_rfl) | (intros; omega) | (intro q p; rw [q, p]; rfl) | (intro q; rw [q]; rfl) | (intro q; simp only [Bool.and_eq_true, decide_eq_true_eq, beq_iff_eq] at q; omega) | (intros; simp_all; done) | (intros; simp [List.range, List.range.loop]; done) | (intros; simp_all [List.range, List.range.loop]; done))) | refine And.intro (fun hg => ?_) (fun hg => ?_) | (with_reducible refine zac ?_; kernel_rfl) | fail)
    rfl
abbrev sessRF (x : Sess) : RF := .agg [.d (iD x.client), .d (iD x.num), .d (iD x.renewed)]
theorem rfind_ok (l : List Sess) (hl : l.length < 2 ^ 62) (c : Int) : CallOK Try.prog 14 [.f (al l.length (sessE l)), .f (ai c)]
    (fun r o => r = [sessRF ((findS l c).getD noSess), rb (findS l c).isSome] ∧ o = []) := by
  refine zaq zaG mixed (T := Ty) (n := 25) Try.func14 (c := Try.f14.body.getD .skip) rfl Try.results14 Try.ntmps14 Try.call14 ?_
  simp only [Try.f14, Option.getD]
  repeat' (first | (with_reducible first | refine zaa _ _ ?_ | refine zah ?_ | refine zai ?_) | rw [zae] | simp only [pkS, TyB, pkY, Int.reduceEq, bne_self_eq_false, Int.reduceBEq, Int.reduceBNe, implies_true, forall_const, Nat.reduceSub, Nat.reduceEqDiff, Nat.reduceAdd, Nat.reduceMul, Nat.reduceLeDiff, Nat.reduceLT, Nat.reduceBEq, reduceCtorEq] | refine zab ?_ | refine zad (fun hb => ?_) (fun hb => ?_) | (refine And.intro ?_ ?_; focus ((try with_reducible refine zal ?_); first | (with_reducible rfl) | ((with_reducible first | refine zam ?_ | refine zaf ?_ | refine zac ?_); kernel_rfl) | (intros; omega) | (intro q p; rw [q, p]; rfl) | (intro q; rw [q]; rfl) | (intro q; simp only [Bool.and_eq_true, decide_eq_true_eq, beq_iff_eq] at q; omega) | (intros; simp_all; done) | (intros; simp [List.range, List.range.loop]; done) | (intros; simp_all [List.range, List.range.loop]; done))) | refine And.intro (fun hg => ?_) (fun hg => ?_) | (with_reducible refine zac ?_; kernel_rfl) | fail)
  refine zaH (τ := Nat) (fun i => ⟨[al l.length (sessE l), ai c, dd, dd, .one (.ptr ⟨4, 0, 1⟩ 0), dd, ai i, dd, dd, dd, dd, dd, dd, dd, dd, dd, dd, dd, dd, dd, dd, dd, dd, dd, dd], [(4, { next := 2, l := [some { e := 1, var := true, fz := false, sz := 0, cells := [di 0, di 0, di 0] }, none, none, none] })]⟩)
    (fun i => i ≤ l.length) (fun i => findS (l.drop i) c) (fun i => l.length - i) 0
    (Gh.canon [4] [] [] (by simp only [zar, zaz, zas, zat, zau, zav, List.set_cons_zero, List.set_cons_succ, and_true, true_and, Int.natCast_zero, Int.cast_ofNat_Int, D.v.injEq, Value.int.injEq]; try (repeat' (first | rfl | omega | with_reducible apply And.intro))) rfl rfl) (Nat.zero_le _) ?_
  intro i hi0 hF K hK
  rw [List.drop_zero] at hF
  repeat (first | with_reducible refine zaa _ _ ?_ | with_reducible refine And.imp_right (zaa _ _) ?_ | with_reducible refine And.imp_right (And.imp_right (zaa _ _)) ?_ | with_reducible refine And.imp_right (And.imp_right (And.imp_right (zaa _ _))) ?_ | rw [zae] | simp only [pkS, TyB,  implies_true, forall_const, Nat.reduceSub, Nat.reduceEqDiff, Nat.reduceAdd, Nat.reduceMul, Nat.reduceLeDiff, Nat.reduceLT, Nat.reduceBEq, reduceCtorEq])
  refine zad (fun hlt => ?_) (fun hge => ?_)
  · have hi : i < l.length := by simpa using hlt
    have hat := zbo hi
    have hw := zaI hi hl
    have hq : findS (l.drop i) c = if (l[i].client == c) = true then some l[i] else findS (l.drop (i + 1)) c := by
      unfold findS
      rw [List.drop_eq_getElem_cons hi, List.find?_cons]
      cases l[i].client == c <;> rfl
    rw [hq] at hF
    repeat' (first | (with_reducible first | refine zaa _ _ ?_ | refine zah ?_ | refine zai ?_) | rw [zae] | simp only [pkS, TyB, hat, List.cons_append, List.nil_append, zaB, pkY, Int.reduceEq, bne_self_eq_false, Int.reduceBEq, Int.reduceBNe, implies_true, forall_const, Nat.reduceSub, Nat.reduceEqDiff, Nat.reduceAdd, Nat.reduceMul, Nat.reduceLeDiff, Nat.reduceLT, Nat.reduceBEq, reduceCtorEq] | refine zab ?_ | refine zad (fun hb => ?_) (fun hb => ?_) | (refine And.intro ?_ ?_; focus ((try with_reducible refine zal ?_); first | (with_reducible rfl) | ((with_reducible first | refine zam ?_ | refine zaf ?_ | refine zac ?_); kernel_rfl) | (intros; omega) | (intro q p; rw [q, p]; rfl) | (intro q; rw [q]; rfl) | (intro q; simp only [Bool.and_eq_true, decide_eq_true_eq, beq_iff_eq] at q; omega) | (intros; simp_all; done) | (intros; simp [List.range, List.range.loop]; done) | (intros; simp_all [List.range, List.range.loop]; done))) | refine And.intro (fun hg => ?_) (fun hg => ?_) | (with_reducible refine zac ?_; kernel_rfl) | fail)
    · rw [if_pos hb] at hF
      rw [← hF]; rfl
    · rw [if_neg (by rw [hb]; simp)] at hq
      exact hK _ (i + 1) (Gh.canon [4] [] [] (by simp only [hw, zar, zaz, zas, zat, zau, zav, List.set_cons_zero, List.set_cons_succ, and_true, true_and, Int.natCast_zero, Int.cast_ofNat_Int, D.v.injEq, Value.int.injEq]; try (repeat' (first | rfl | omega | with_reducible apply And.intro))) rfl rfl) hi hq.symm (by omega)
  · have hi : i = l.length := by
      have : ¬ (i : Int) < l.length := by simpa using hge
      omega
    rw [hi, List.drop_length] at hF
    rw [← hF]
    repeat' (first | (with_reducible first | refine zaa _ _ ?_ | refine zah ?_ | refine zai ?_) | rw [zae] | simp only [pkS, TyB, pkY, Int.reduceEq, bne_self_eq_false, Int.reduceBEq, Int.reduceBNe, implies_true, forall_const, Nat.reduceSub, Nat.reduceEqDiff, Nat.reduceAdd, Nat.reduceMul, Nat.reduceLeDiff, Nat.reduceLT, Nat.reduceBEq, reduceCtorEq] | refine zab ?_ | refine zad (fun hb => ?_) (fun hb => ?_) | (refine And.intro ?_ ?_; focus ((try with_reducible refine zal ?_); first | (with_reducible rfl) | ((with_reducible first | refine zam ?_ | refine zaf ?_ | refine zac ?_); kernel_rfl) | (intros; omega) | (intro q p; rw [q, p]; rfl) | (intro q; rw [q]; rfl) | (intro q; simp only [Bool.and_eq_true, decide_eq_true_eq, beq_iff_eq] at q; omega) | (intros; simp_all; done) | (intros; simp [List.range, List.range.loop]; done) | (intros; simp_all [List.range, List.range.loop]; done))) | refine And.intro (fun hg => ?_) (fun hg => ?_) | (with_reducible refine zac ?_; kernel_rfl) | fail)
    rfl
theorem rfindL_ok (l : List Lk) (hl : l.length < 2 ^ 62) (s : ByteArray) : CallOK Try.prog 13 [.f (al l.length (locksE l)), .f (ast s)] (fun r o => r = [ri (idxF (isL s) l 0)] ∧ o = []) := by
  refine zaq zaG mixed (T := Ty) (n := 20) Try.func13 (c := Try.f13.body.getD .skip) rfl Try.results13 Try.ntmps13 Try.call13 ?_
  simp only [Try.f13, Option.getD]
  repeat' (first | (with_reducible first | refine zaa _ _ ?_ | refine zah ?_ | refine zai ?_) | rw [zae] | simp only [pkS, TyB, pkY, Int.reduceEq, bne_self_eq_false, Int.reduceBEq, Int.reduceBNe, implies_true, forall_const, Nat.reduceSub, Nat.reduceEqDiff, Nat.reduceAdd, Nat.reduceMul, Nat.reduceLeDiff, Nat.reduceLT, Nat.reduceBEq, reduceCtorEq] | refine zab ?_ | refine zad (fun hb => ?_) (fun hb => ?_) | (refine And.intro ?_ ?_; focus ((try with_reducible refine zal ?_); first | (with_reducible rfl) | ((with_reducible first | refine zam ?_ | refine zaf ?_ | refine zac ?_); kernel_rfl) | (intros; omega) | (intro q p; rw [q, p]; rfl) | (intro q; rw [q]; rfl) | (intro q; simp only [Bool.and_eq_true, decide_eq_true_eq, beq_iff_eq] at q; omega) | (intros; simp_all; done) | (intros; simp [List.range, List.range.loop]; done) | (intros; simp_all [List.range, List.range.loop]; done))) | refine And.intro (fun hg => ?_) (fun hg => ?_) | (with_reducible refine zac ?_; kernel_rfl) | fail)
  refine zaH (τ := Nat) (fun i => ⟨[al l.length (locksE l), ast s, dd, dd, dd, ai i, dd, dd, dd, dd, dd, dd, dd, dd, dd, dd, dd, dd, dd, dd], []⟩)
    (fun i => i ≤ l.length) (fun i => idxF (isL s) (l.drop i) i) (fun i => l.length - i) 0
    (Gh.canon [] [] [] (by simp only [zar, zaz, zas, zat, zau, zav, List.set_cons_zero, List.set_cons_succ, and_true, true_and, Int.natCast_zero, Int.cast_ofNat_Int, D.v.injEq, Value.int.injEq]; try (repeat' (first | rfl | omega | with_reducible apply And.intro))) rfl rfl) (Nat.zero_le _) ?_
  intro i hi0 hF K hK
  rw [List.drop_zero] at hF
  repeat (first | with_reducible refine zaa _ _ ?_ | with_reducible refine And.imp_right (zaa _ _) ?_ | with_reducible refine And.imp_right (And.imp_right (zaa _ _)) ?_ | with_reducible refine And.imp_right (And.imp_right (And.imp_right (zaa _ _))) ?_ | rw [zae] | simp only [pkS, TyB,  implies_true, forall_const, Nat.reduceSub, Nat.reduceEqDiff, Nat.reduceAdd, Nat.reduceMul, Nat.reduceLeDiff, Nat.reduceLT, Nat.reduceBEq, reduceCtorEq])
  refine zad (fun hlt => ?_) (fun hge => ?_)
  · have hi : i < l.length := by simpa using hlt
    have hat := zaV hi
    have hw := zaI hi hl
    have hq : idxF (isL s) (l.drop i) i = if (l[i].name.toList == s.toList) = true then (i : Int) else idxF (isL s) (l.drop (i + 1)) ((i + 1 : Nat) : Int) := by
      rw [List.drop_eq_getElem_cons hi, idxF]; rfl
    rw [hq] at hF
    repeat' (first | (with_reducible first | refine zaa _ _ ?_ | refine zah ?_ | refine zai ?_) | rw [zae] | simp only [pkS, TyB, hat, List.cons_append, List.nil_append, zax, pkY, Int.reduceEq, bne_self_eq_false, Int.reduceBEq, Int.reduceBNe, implies_true, forall_const, Nat.reduceSub, Nat.reduceEqDiff, Nat.reduceAdd, Nat.reduceMul, Nat.reduceLeDiff, Nat.reduceLT, Nat.reduceBEq, reduceCtorEq] | refine zab ?_ | refine zad (fun hb => ?_) (fun hb => ?_) | (refine And.intro ?_ ?_; focus ((try with_reducible refine zal ?_); first | (with_reducible rfl) | ((with_reducible first | refine zam ?_ | refine zaf ?_ | refine zac ?_); kernel_rfl) | (intros; omega) | (intro q p; rw [q, p]; rfl) | (intro q; rw [q]; rfl) | (intro q; simp only [Bool.and_eq_true, decide_eq_true_eq, beq_iff_eq] at q; omega) | (intros; simp_all; done) | (intros; simp [List.range, List.range.loop]; done) | (intros; simp_all [List.range, List.range.loop]; done))) | refine And.intro (fun hg => ?_) (fun hg => ?_) | (with_reducible refine zac ?_; kernel_rfl) | fail)
    · rw [if_pos hb] at hF
      have hF : (i : Int) = idxF (isL s) l 0 := hF
      rw [← hF]
    · rw [if_neg (by rw [hb]; simp)] at hq
      exact hK _ (i + 1) (Gh.canon [] [] [] (by simp only [hw, zar, zaz, zas, zat, zau, zav, List.set_cons_zero, List.set_cons_succ, and_true, true_and, Int.natCast_zero, Int.cast_ofNat_Int, D.v.injEq, Value.int.injEq]; try (repeat' (first | rfl | omega | with_reducible apply And.intro))) rfl rfl) hi hq.symm (by omega)
  · have hi : i = l.length := by
      have : ¬ (i : Int) < l.length := by simpa using hge
      omega
    rw [hi, List.drop_length] at hF
    have hF : (-1 : Int) = idxF (isL s) l 0 := hF
    rw [← hF]
    repeat' (first | (with_reducible first | refine zaa _ _ ?_ | refine zah ?_ | refine zai ?_) | rw [zae] | simp only [pkS, TyB, pkY, Int.reduceEq, bne_self_eq_false, Int.reduceBEq, Int.reduceBNe, implies_true, forall_const, Nat.reduceSub, Nat.reduceEqDiff, Nat.reduceAdd, Nat.reduceMul, Nat.reduceLeDiff, Nat.reduceLT, Nat.reduceBEq, reduceCtorEq] | refine zab ?_ | refine zad (fun hb => ?_) (fun hb => ?_) | (refine And.intro ?_ ?_; focus ((try with_reducible refine zal ?_); first | (with_reducible rfl) | ((with_reducible first | refine zam ?_ | refine zaf ?_ | refine zac ?_); kernel_rfl) | (intros; omega) | (intro q p; rw [q, p]; rfl) | (intro q; rw [q]; rfl) | (intro q; simp only [Bool.and_eq_true, decide_eq_true_eq, beq_iff_eq] at q; omega) | (intros; simp_all; done) | (intros; simp [List.range, List.range.loop]; done) | (intros; simp_all [List.range, List.range.loop]; done))) | refine And.intro (fun hg => ?_) (fun hg => ?_) | (with_reducible refine zac ?_; kernel_rfl) | fail)
end Go.Proofs.Ytniafckaafcpbaa
