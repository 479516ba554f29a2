import Derived.Test.YtniafckaafcpbaaX
namespace Go.Proofs.Ytniafckaafcpbaa
open Go.Pk
set_option maxRecDepth 100000
set_option linter.unusedSimpArgs false
set_option linter.unusedVariables false
theorem zfY {T : Nat → Option TI} {P : Program} {x : Code} {g g' : G} {Q : Ex → G → Prop} (h : Gh g g') (hl : LoopR T P x g' Q) : LoopR T P x g Q := by
  obtain ⟨I, n0, ⟨g0, h1, h2⟩, h3⟩ := hl
  exact ⟨I, n0, ⟨g0, h.trans h1, h2⟩, h3⟩
def sameI (a b : List Int) : Bool := (a.length == b.length) && ((a.zip b).all fun p => p.1 == p.2)
theorem zhx (a b : List Int) (ha : a.length < 2 ^ 62) (hb : b.length < 2 ^ 62) : CallOK Try.prog 30 [.f (al a.length (intsE a)), .f (al b.length (intsE b))] (fun r o => r = [rb (sameI a b)] ∧ o = []) := by
  refine zaq zaG mixed (T := Ty) (n := 26) Try.func30 (c := Try.f30.body.getD .skip) rfl Try.results30 Try.ntmps30 Try.call30 ?_
  simp only [Try.f30, Option.getD]
  cases hl : ((a.length : Int) != (b.length : Int))
  · have hle : a.length = b.length := by simp at hl; omega
    have hs : sameI a b = (a.zip b).all fun p => p.1 == p.2 := by unfold sameI; rw [hle]; simp
    rw [hs]
    repeat' (first | (with_reducible first | refine zaa _ _ ?_ | refine zah ?_ | refine zai ?_) | rw [zae] | simp only [pkS, TyB, hl, pkY, Int.reduceEq, bne_self_eq_false, Int.reduceBEq, Int.reduceBNe, implies_true, forall_const, Nat.reduceSub, Nat.reduceEqDiff, Nat.reduceAdd, Nat.reduceMul, Nat.reduceLeDiff, Nat.reduceLT, Nat.reduceBEq, reduceCtorEq] | refine zab ?_ | refine zad (fun hb => ?_) (fun hb => ?_) | (refine And.intro ?_ ?_; focus ((try with_reducible refine zal ?_); first | (with_reducible rfl) | ((with_reducible first | refine zam ?_ | refine zaf ?_ | refine zac ?_); kernel_rfl) | (intros; omega) | (intro q p; rw [q, p]; rfl) | (intro q; rw [q]; rfl) | (intro q; simp only [Bool.and_eq_true, decide_eq_true_eq, beq_iff_eq] at q; omega) | (intros; simp_all; done) | (intros; simp [List.range, List.range.loop]; done) | (intros; simp_all [List.range, List.range.loop]; done))) | refine And.intro (fun hg => ?_) (fun hg => ?_) | (with_reducible refine zac ?_; kernel_rfl) | fail)
    refine zaH (τ := Nat) (fun i => ⟨[al a.length (intsE a), al b.length (intsE b), dd, dd, dd, ai i, dd, dd, dd, dd, dd, dd, dd, dd, dd, dd, dd, dd, dd, dd, dd, dd, dd, dd, dd, dd], []⟩)
      (fun i => i ≤ a.length) (fun i => ((a.drop i).zip (b.drop i)).all fun p => p.1 == p.2) (fun i => a.length - i) 0
      (Gh.canon [] [] [] (by simp only [zar, zaz, zas, zat, zau, zav, List.set_cons_zero, List.set_cons_succ, and_true, true_and, Int.natCast_zero, Int.cast_ofNat_Int, D.v.injEq, Value.int.injEq]; try (repeat' (first | rfl | omega | with_reducible apply And.intro))) rfl rfl) (Nat.zero_le _) ?_
    intro i hi0 hF K hK
    rw [List.drop_zero, List.drop_zero] at hF
    repeat (first | with_reducible refine zaa _ _ ?_ | with_reducible refine And.imp_right (zaa _ _) ?_ | with_reducible refine And.imp_right (And.imp_right (zaa _ _)) ?_ | with_reducible refine And.imp_right (And.imp_right (And.imp_right (zaa _ _))) ?_ | rw [zae] | simp only [pkS, TyB,  implies_true, forall_const, Nat.reduceSub, Nat.reduceEqDiff, Nat.reduceAdd, Nat.reduceMul, Nat.reduceLeDiff, Nat.reduceLT, Nat.reduceBEq, reduceCtorEq])
    refine zad (fun hlt => ?_) (fun hge => ?_)
    · have hi : i < a.length := by simpa using hlt
      have hib : i < b.length := by omega
      have hat := zbX hi
      have hbt := zbX hib
      have hw := zaI hi ha
      have hq : (((a.drop i).zip (b.drop i)).all fun p => p.1 == p.2) = ((a[i] == b[i]) && (((a.drop (i + 1)).zip (b.drop (i + 1))).all fun p => p.1 == p.2)) := by
        rw [List.drop_eq_getElem_cons hi, List.drop_eq_getElem_cons hib, List.zip_cons_cons, List.all_cons]
      rw [hq] at hF
      cases he : a[i] != b[i]
      · have he' : (a[i] == b[i]) = true := by simpa using he
        rw [he', Bool.true_and] at hq
        repeat' (first | (with_reducible first | refine zaa _ _ ?_ | refine zah ?_ | refine zai ?_) | rw [zae] | simp only [pkS, TyB, hat, hbt, he, List.cons_append, List.nil_append, zaE, pkY, Int.reduceEq, bne_self_eq_false, Int.reduceBEq, Int.reduceBNe, implies_true, forall_const, Nat.reduceSub, Nat.reduceEqDiff, Nat.reduceAdd, Nat.reduceMul, Nat.reduceLeDiff, Nat.reduceLT, Nat.reduceBEq, reduceCtorEq] | refine zab ?_ | refine zad (fun hb => ?_) (fun hb => ?_) | (refine And.intro ?_ ?_; focus ((try with_reducible refine zal ?_); first | (with_reducible rfl) | ((with_reducible first | refine zam ?_ | refine zaf ?_ | refine zac ?_); kernel_rfl) | (intros; omega) | (intro q p; rw [q, p]; rfl) | (intro q; rw [q]; rfl) | (intro q; simp only [Bool.and_eq_true, decide_eq_true_eq, beq_iff_eq] at q; omega) | (intros; simp_all; done) | (intros; simp [List.range, List.range.loop]; done) | (intros; simp_all [List.range, List.range.loop]; done))) | refine And.intro (fun hg => ?_) (fun hg => ?_) | (with_reducible refine zac ?_; kernel_rfl) | fail)
        exact hK _ (i + 1) (Gh.canon [] [] [] (by simp only [hw, zar, zaz, zas, zat, zau, zav, List.set_cons_zero, List.set_cons_succ, and_true, true_and, Int.natCast_zero, Int.cast_ofNat_Int, D.v.injEq, Value.int.injEq]; try (repeat' (first | rfl | omega | with_reducible apply And.intro))) rfl rfl) hi hq.symm (by omega)
      · have he' : (a[i] == b[i]) = false := by simpa using he
        rw [he', Bool.false_and] at hF
        repeat' (first | (with_reducible first | refine zaa _ _ ?_ | refine zah ?_ | refine zai ?_) | rw [zae] | simp only [pkS, TyB, hat, hbt, he, List.cons_append, List.nil_append, zaE, pkY, Int.reduceEq, bne_self_eq_false, Int.reduceBEq, Int.reduceBNe, implies_true, forall_const, Nat.reduceSub, Nat.reduceEqDiff, Nat.reduceAdd, Nat.reduceMul, Nat.reduceLeDiff, Nat.reduceLT, Nat.reduceBEq, reduceCtorEq] | refine zab ?_ | refine zad (fun hb => ?_) (fun hb => ?_) | (refine And.intro ?_ ?_; focus ((try with_reducible refine zal ?_); first | (with_reducible rfl) | ((with_reducible first | refine zam ?_ | refine zaf ?_ | refine zac ?_); kernel_rfl) | (intros; omega) | (intro q p; rw [q, p]; rfl) | (intro q; rw [q]; rfl) | (intro q; simp only [Bool.and_eq_true, decide_eq_true_eq, beq_iff_eq] at q; omega) | (intros; simp_all; done) | (intros; simp [List.range, List.range.loop]; done) | (intros; simp_all [List.range, List.range.loop]; done))) | refine And.intro (fun hg => ?_) (fun hg => ?_) | (with_reducible refine zac ?_; kernel_rfl) | fail)
        rw [← hF]
    · have hi : i = a.length := by
        have : ¬ (i : Int) < a.length := by simpa using hge
        omega
      rw [hi, List.drop_length, List.zip_nil_left, List.all_nil] at hF
      rw [← hF]
      repeat' (first | (with_reducible first | refine zaa _ _ ?_ | refine zah ?_ | refine zai ?_) | rw [zae] | simp only [pkS, TyB, pkY, Int.reduceEq, bne_self_eq_false, Int.reduceBEq, Int.reduceBNe, implies_true, forall_const, Nat.reduceSub, Nat.reduceEqDiff, Nat.reduceAdd, Nat.reduceMul, Nat.reduceLeDiff, Nat.reduceLT, Nat.reduceBEq, reduceCtorEq] | refine zab ?_ | refine zad (fun hb => ?_) (fun hb => ?_) | (refine And.intro ?_ ?_; focus ((try with_reducible refine zal ?_); first | (with_reducible rfl) | ((with_reducible first | refine zam ?_ | refine zaf ?_ | refine zac ?_); kernel_rfl) | (intros; omega) | (intro q p; rw [q, p]; rfl) | (intro q; rw [q]; rfl) | (intro q; simp only [Bool.and_eq_true, decide_eq_true_eq, beq_iff_eq] at q; omega) | (intros; simp_all; done) | (intros; simp [List.range, List.range.loop]; done) | (intros; simp_all [List.range, List.range.loop]; done))) | refine And.intro (fun hg => ?_) (fun hg => ?_) | (with_reducible refine zac ?_; kernel_rfl) | fail)
  · have hs : sameI a b = false := by
      have : (a.length == b.length) = false := by simp at hl ⊢; omega
      unfold sameI; rw [this]; rfl
    rw [hs]
    repeat' (first | (with_reducible first | refine zaa _ _ ?_ | refine zah ?_ | refine zai ?_) | rw [zae] | simp only [pkS, TyB, hl, pkY, Int.reduceEq, bne_self_eq_false, Int.reduceBEq, Int.reduceBNe, implies_true, forall_const, Nat.reduceSub, Nat.reduceEqDiff, Nat.reduceAdd, Nat.reduceMul, Nat.reduceLeDiff, Nat.reduceLT, Nat.reduceBEq, reduceCtorEq] | refine zab ?_ | refine zad (fun hb => ?_) (fun hb => ?_) | (refine And.intro ?_ ?_; focus ((try with_reducible refine zal ?_); first | (with_reducible rfl) | ((with_reducible first | refine zam ?_ | refine zaf ?_ | refine zac ?_); kernel_rfl) | (intros; omega) | (intro q p; rw [q, p]; rfl) | (intro q; rw [q]; rfl) | (intro q; simp only [Bool.and_eq_true, decide_eq_true_eq, beq_iff_eq] at q; omega) | (intros; simp_all; done) | (intros; simp [List.range, List.range.loop]; done) | (intros; simp_all [List.range, List.range.loop]; done))) | refine And.intro (fun hg => ?_) (fun hg => ?_) | (with_reducible refine zac ?_; kernel_rfl) | fail)
def st0 : St := ⟨0, 0, 0, [], [], []⟩
def rq0 : Req := ⟨3, 1, 1, 0, .empty⟩
theorem zcD : RightS st0 := zfj.1 rfl
def st1 : St := ⟨0, 1, 0, [⟨3, 1, 0⟩], [], [⟨3, 1, ⟨0, 1, 0, []⟩⟩]⟩
theorem rq0_may : Req.may rq0 = true := by
  have h : mayP 1 0 .empty = true := by unfold mayP; simp
  unfold Req.may
  rw [show mayP rq0.kind rq0.session rq0.name = true from h]
  decide
theorem apply0 : applyP st0 rq0 = (st1, ⟨0, 1, 0, []⟩, true) := by
  unfold applyP
  rw [rq0_may]
  rfl
theorem adv0 : advanceP st1 10 10 = ⟨10, 1, 0, [], [], [⟨3, 1, ⟨0, 1, 0, []⟩⟩]⟩ := rfl
theorem zch : RightS st1 := by
  have := (zcl zcD rq0 (by decide) (by decide)).rt
  rw [apply0] at this
  exact this
set_option maxHeartbeats 2000000 in
theorem awake_ok : CallOK Try.prog 9 [] (fun r o => r = [rb true] ∧ o = []) := by
  refine zaq zaG mixed (T := Ty) (n := 59) Try.func9 (c := Try.f9.body.getD .skip) rfl Try.results9 Try.ntmps9 Try.call9 ?_
  simp only [Try.f9, Option.getD]
  have hap := zdw st0 (zaP zcD) zcD rq0 ⟨⟨by decide, by decide⟩, ⟨by decide, by decide⟩, ⟨by decide, by decide⟩, ⟨by decide, by decide⟩, by decide⟩ (fun hm => zbA zcD hm (by decide) (by decide))
  rw [apply0] at hap
  have had := advance_ok st1 (zaP zch) zch 10 10
  rw [adv0] at had
  have hgo := gone_ok st1 ⟨10, 1, 0, [], [], [⟨3, 1, ⟨0, 1, 0, []⟩⟩]⟩ (zaP zch) (by rw [← adv0]; exact zaP (zfP zch 10 10 (by decide)).1) List.Pairwise.nil
  have hri := right_ok st1 (zaP zch)
  rw [zfj.2 zch] at hri
  have hsi := zhx [3] [3] (by decide) (by decide)
  have h1 : ((st1.sess.length : Int) == 1) = true := rfl
  have h2 : (st1.num == 1) = true := rfl
  have h3 : (((0 : Nat) : Int) == 0) = true := rfl
  repeat' (first | (with_reducible first | refine zaa _ _ ?_ | refine zah ?_ | refine zai ?_) | rw [zae] | simp only [pkS, TyB, h1, h2, h3, rowI, pkY, Int.reduceEq, bne_self_eq_false, Int.reduceBEq, Int.reduceBNe, implies_true, forall_const, Nat.reduceSub, Nat.reduceEqDiff, Nat.reduceAdd, Nat.reduceMul, Nat.reduceLeDiff, Nat.reduceLT, Nat.reduceBEq, reduceCtorEq] | ((try refine zak ?_); apply zan; (solve | exact (hap) | exact (had) | exact (hgo) | exact (hri) | exact (hsi) | (refine CallOK.le (hap) ?_; simp [argsLe, aLe, csLe, cLe]) | (refine CallOK.le (had) ?_; simp [argsLe, aLe, csLe, cLe]) | (refine CallOK.le (hgo) ?_; simp [argsLe, aLe, csLe, cLe]) | (refine CallOK.le (hri) ?_; simp [argsLe, aLe, csLe, cLe]) | (refine CallOK.le (hsi) ?_; simp [argsLe, aLe, csLe, cLe]))) | (apply zaj; (focus (intro _; (solve | exact (hap) | exact (had) | exact (hgo) | exact (hri) | exact (hsi) | (refine CallOK.le (hap) ?_; simp [argsLe, aLe, csLe, cLe]) | (refine CallOK.le (had) ?_; simp [argsLe, aLe, csLe, cLe]) | (refine CallOK.le (hgo) ?_; simp [argsLe, aLe, csLe, cLe]) | (refine CallOK.le (hri) ?_; simp [argsLe, aLe, csLe, cLe]) | (refine CallOK.le (hsi) ?_; simp [argsLe, aLe, csLe, cLe])))); (focus rfl)) | refine zab ?_ | refine zad (fun hb => ?_) (fun hb => ?_) | (refine And.intro ?_ ?_; focus ((try with_reducible refine zal ?_); first | (with_reducible rfl) | ((with_reducible first | refine zam ?_ | refine zaf ?_ | refine zac ?_); kernel_rfl) | (intros; omega) | (intro q p; rw [q, p]; rfl) | (intro q; rw [q]; rfl) | (intro q; simp only [Bool.and_eq_true, decide_eq_true_eq, beq_iff_eq] at q; omega) | (intros; simp_all; done) | (intros; simp [List.range, List.range.loop]; done) | (intros; simp_all [List.range, List.range.loop]; done))) | refine And.intro (fun hg => ?_) (fun hg => ?_) | (with_reducible refine zac ?_; kernel_rfl) | fail)
  · rfl
  · cases hg
end Go.Proofs.Ytniafckaafcpbaa
