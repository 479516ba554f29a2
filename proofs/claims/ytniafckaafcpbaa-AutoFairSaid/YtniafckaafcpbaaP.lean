import Derived.Test.YtniafckaafcpbaaN
namespace Go.Proofs.Ytniafckaafcpbaa
open Go.Pk
set_option maxRecDepth 100000
set_option linter.unusedSimpArgs false
set_option linter.unusedVariables false
def replyOk (r : Reply) : Prop := r.held.length < 2 ^ 30 ∧ ∀ g ∈ r.held, g.name.size < 2 ^ 62
theorem zco (r : Reply) (hr : replyOk r) : CallOK Try.prog 75 [.f (.agg r.lent)] (fun x o => x = [rb (replyB r)] ∧ o = []) := by
  refine zaq zaG mixed (T := Ty) (n := 87) Try.func75 (c := Try.f75.body.getD .skip) rfl Try.results75 Try.ntmps75 Try.call75 ?_
  simp only [Try.f75, Option.getD]
  obtain ⟨h1, h2⟩ := hr
  cases hA : (decide (r.code < 0) || decide (r.code > 12) || decide (r.session < 0) || decide (r.session > 2305843009213693952) || decide (r.ahead < 0) || decide (r.ahead > 3))
  · cases hB : (decide ((r.held.length : Int) > 4) || (r.session == 0) && decide ((r.held.length : Int) > 0))
    · have hs : replyB r = checkP (grantQ r.held) 0 r.held := by
        unfold replyB
        rw [show (decide (r.code < 0) || decide (r.code > 12) || decide (r.session < 0) || decide (r.session > High) || decide (r.ahead < 0) || decide (r.ahead > 3)) = false from hA, hB]
        rfl
      rw [hs]
      repeat' (first | (with_reducible first | refine zaa _ _ ?_ | refine zah ?_ | refine zai ?_) | rw [zae] | simp only [pkS, TyB, hA, hB, pkY, Int.reduceEq, bne_self_eq_false, Int.reduceBEq, Int.reduceBNe, implies_true, forall_const, Nat.reduceSub, Nat.reduceEqDiff, Nat.reduceAdd, Nat.reduceMul, Nat.reduceLeDiff, Nat.reduceLT, Nat.reduceBEq, reduceCtorEq] | refine zab ?_ | refine zad (fun hb => ?_) (fun hb => ?_) | (refine And.intro ?_ ?_; focus ((try with_reducible refine zal ?_); first | (with_reducible rfl) | ((with_reducible first | refine zam ?_ | refine zaf ?_ | refine zac ?_); kernel_rfl) | (intros; omega) | (intro q p; rw [q, p]; rfl) | (intro q; rw [q]; rfl) | (intro q; simp only [Bool.and_eq_true, decide_eq_true_eq, beq_iff_eq] at q; omega) | (intros; simp_all; done) | (intros; simp [List.range, List.range.loop]; done) | (intros; simp_all [List.range, List.range.loop]; done))) | refine And.intro (fun hg => ?_) (fun hg => ?_) | (with_reducible refine zac ?_; kernel_rfl) | fail)
      refine zaH (τ := Nat) (fun i => ⟨[dd, .one (.ptr ⟨1, 0, 1⟩ 0), dd, dd, dd, dd, dd, dd, dd, dd, dd, dd, dd, dd, dd, dd, dd, dd, dd, dd, dd, dd, dd, dd, dd, dd, dd, dd, dd, dd, dd, dd, dd, dd, dd, dd, dd, dd, dd, dd, dd, dd, dd, dd, dd, dd, dd, dd, dd, al r.held.length (grantsE r.held), ai r.held.length, ai i, dd, dd, dd, dd, dd, dd, dd, dd, dd, dd, dd, dd, dd, dd, dd, dd, dd, dd, dd, dd, dd, dd, dd, dd, dd, dd, dd, dd, dd, dd, dd, dd, dd, dd, dd], [(1, { next := 2, l := [some { e := 1, var := true, fz := false, sz := 0, cells := [di r.code, di r.session, di r.ahead, .lent r.held.length (grantsE r.held)] }, none, none, none, none] }), (4, ⟨2, []⟩)]⟩)
        (fun i => i ≤ r.held.length) (fun i => checkP (grantQ r.held) i (r.held.drop i)) (fun i => r.held.length - i) 0
        (Gh.canon [1] [4] [] (by simp only [zar, zaz, zas, zat, zau, zav, List.set_cons_zero, List.set_cons_succ, and_true, true_and, Int.natCast_zero, Int.cast_ofNat_Int, D.v.injEq, Value.int.injEq]; try (repeat' (first | rfl | omega | with_reducible apply And.intro))) rfl rfl) (Nat.zero_le _) ?_
      intro i hi0 hF K hK
      rw [List.drop_zero] at hF
      repeat (first | with_reducible refine zaa _ _ ?_ | with_reducible refine And.imp_right (zaa _ _) ?_ | with_reducible refine And.imp_right (And.imp_right (zaa _ _)) ?_ | with_reducible refine And.imp_right (And.imp_right (And.imp_right (zaa _ _))) ?_ | rw [zae] | simp only [pkS, TyB,  implies_true, forall_const, Nat.reduceSub, Nat.reduceEqDiff, Nat.reduceAdd, Nat.reduceMul, Nat.reduceLeDiff, Nat.reduceLT, Nat.reduceBEq, reduceCtorEq])
      refine zad (fun hlt => ?_) (fun hge => ?_)
      · have hi : i < r.held.length := by simpa using hlt
        have hat := zdc hi
        have hw := zaI hi (by omega)
        rw [zaM hi] at hF
        have hnm := zdS r.held[i].name (h2 _ (List.getElem_mem hi))
        cases e0 : decide ((i : Int) > 0)
        · have h0 : i = 0 := by simpa using e0
          have hq : grantQ r.held i r.held[i] = !(!nameP r.held[i].name || decide (r.held[i].token < 1) || decide (r.held[i].token > 2305843009213693952)) := by
            unfold grantQ
            have : decide (i > 0) = false := by simpa using e0
            rw [this, Bool.false_and, Bool.or_false]
          have hp : (grantsE r.held).drop ((IntKind.i64.wrap ((i : Int) - 1)).toNat * 2) = r.held[i].enc ++ grantsE (r.held.drop (i + 1)) := by
            rw [← zdc hi, h0]; rfl
          repeat' (first | (with_reducible first | refine zaa _ _ ?_ | refine zah ?_ | refine zai ?_) | rw [zae] | simp only [pkS, TyB, hat, hp, e0, List.cons_append, List.nil_append, zbv, pkY, Int.reduceEq, bne_self_eq_false, Int.reduceBEq, Int.reduceBNe, implies_true, forall_const, Nat.reduceSub, Nat.reduceEqDiff, Nat.reduceAdd, Nat.reduceMul, Nat.reduceLeDiff, Nat.reduceLT, Nat.reduceBEq, reduceCtorEq] | ((try refine zak ?_); apply zan; (solve | exact (hnm) | (refine CallOK.le (hnm) ?_; simp [argsLe, aLe, csLe, cLe]))) | (apply zaj; (focus (intro _; (solve | exact (hnm) | (refine CallOK.le (hnm) ?_; simp [argsLe, aLe, csLe, cLe])))); (focus rfl)) | refine zab ?_ | refine zad (fun hb => ?_) (fun hb => ?_) | (refine And.intro ?_ ?_; focus ((try with_reducible refine zal ?_); first | (with_reducible rfl) | ((with_reducible first | refine zam ?_ | refine zaf ?_ | refine zac ?_); kernel_rfl) | (intros; omega) | (intro q p; rw [q, p]; rfl) | (intro q; rw [q]; rfl) | (intro q; simp only [Bool.and_eq_true, decide_eq_true_eq, beq_iff_eq] at q; omega) | (intros; simp_all; done) | (intros; simp [List.range, List.range.loop]; done) | (intros; simp_all [List.range, List.range.loop]; done))) | refine And.intro (fun hg => ?_) (fun hg => ?_) | (with_reducible refine zac ?_; kernel_rfl) | fail)
          · rw [hq, hb, if_neg (by simp)] at hF
            rw [← hF]
          · exact hK _ (i + 1) (Gh.canon [1] [] [] (by simp only [hw, zar, zaz, zas, zat, zau, zav, List.set_cons_zero, List.set_cons_succ, and_true, true_and, Int.natCast_zero, Int.cast_ofNat_Int, D.v.injEq, Value.int.injEq]; try (repeat' (first | rfl | omega | with_reducible apply And.intro))) rfl rfl) hi (by rw [zaM hi, hq, hb]; rfl) (by omega)
        · have h0 : 0 < i := by simpa using e0
          have hq : grantQ r.held i r.held[i] = !(!nameP r.held[i].name || decide (r.held[i].token < 1) || decide (r.held[i].token > 2305843009213693952) || !(bLess (r.held[i - 1]'(by omega)).name r.held[i].name)) := by
            unfold grantQ prevG
            have : decide (i > 0) = true := by simpa using e0
            rw [this, List.getElem?_eq_getElem (by omega)]
            simp only [Bool.true_and, Option.map_some, Option.getD_some]
          have hp := zdc (show i - 1 < r.held.length by omega)
          have hw1 : IntKind.i64.wrap ((i : Int) - 1) = ((i - 1 : Nat) : Int) := by rw [wrap64 (by omega) (by omega)]; omega
          repeat' (first | (with_reducible first | refine zaa _ _ ?_ | refine zah ?_ | refine zai ?_) | rw [zae] | simp only [pkS, TyB, hat, hp, hw1, e0, List.cons_append, List.nil_append, zbv, pkY, Int.reduceEq, bne_self_eq_false, Int.reduceBEq, Int.reduceBNe, implies_true, forall_const, Nat.reduceSub, Nat.reduceEqDiff, Nat.reduceAdd, Nat.reduceMul, Nat.reduceLeDiff, Nat.reduceLT, Nat.reduceBEq, reduceCtorEq] | ((try refine zak ?_); apply zan; (solve | exact (hnm) | (refine CallOK.le (hnm) ?_; simp [argsLe, aLe, csLe, cLe]))) | (apply zaj; (focus (intro _; (solve | exact (hnm) | (refine CallOK.le (hnm) ?_; simp [argsLe, aLe, csLe, cLe])))); (focus rfl)) | refine zab ?_ | refine zad (fun hb => ?_) (fun hb => ?_) | (refine And.intro ?_ ?_; focus ((try with_reducible refine zal ?_); first | (with_reducible rfl) | ((with_reducible first | refine zam ?_ | refine zaf ?_ | refine zac ?_); kernel_rfl) | (intros; omega) | (intro q p; rw [q, p]; rfl) | (intro q; rw [q]; rfl) | (intro q; simp only [Bool.and_eq_true, decide_eq_true_eq, beq_iff_eq] at q; omega) | (intros; simp_all; done) | (intros; simp [List.range, List.range.loop]; done) | (intros; simp_all [List.range, List.range.loop]; done))) | refine And.intro (fun hg => ?_) (fun hg => ?_) | (with_reducible refine zac ?_; kernel_rfl) | fail)
          · rw [hq, hb, if_neg (by simp)] at hF
            rw [← hF]
          · exact hK _ (i + 1) (Gh.canon [1] [] [] (by simp only [hw, zar, zaz, zas, zat, zau, zav, List.set_cons_zero, List.set_cons_succ, and_true, true_and, Int.natCast_zero, Int.cast_ofNat_Int, D.v.injEq, Value.int.injEq]; try (repeat' (first | rfl | omega | with_reducible apply And.intro))) rfl rfl) hi (by rw [zaM hi, hq, hb]; rfl) (by omega)
      · have hi : i = r.held.length := by
          have : ¬ (i : Int) < r.held.length := by simpa using hge
          omega
        rw [zcd hi] at hF
        rw [← hF]
        repeat' (first | (with_reducible first | refine zaa _ _ ?_ | refine zah ?_ | refine zai ?_) | rw [zae] | simp only [pkS, TyB, pkY, Int.reduceEq, bne_self_eq_false, Int.reduceBEq, Int.reduceBNe, implies_true, forall_const, Nat.reduceSub, Nat.reduceEqDiff, Nat.reduceAdd, Nat.reduceMul, Nat.reduceLeDiff, Nat.reduceLT, Nat.reduceBEq, reduceCtorEq] | refine zab ?_ | refine zad (fun hb => ?_) (fun hb => ?_) | (refine And.intro ?_ ?_; focus ((try with_reducible refine zal ?_); first | (with_reducible rfl) | ((with_reducible first | refine zam ?_ | refine zaf ?_ | refine zac ?_); kernel_rfl) | (intros; omega) | (intro q p; rw [q, p]; rfl) | (intro q; rw [q]; rfl) | (intro q; simp only [Bool.and_eq_true, decide_eq_true_eq, beq_iff_eq] at q; omega) | (intros; simp_all; done) | (intros; simp [List.range, List.range.loop]; done) | (intros; simp_all [List.range, List.range.loop]; done))) | refine And.intro (fun hg => ?_) (fun hg => ?_) | (with_reducible refine zac ?_; kernel_rfl) | fail)
    · have hs : replyB r = false := by
        unfold replyB
        rw [hB, Bool.not_true, Bool.and_false, Bool.false_and]
      rw [hs]
      repeat' (first | (with_reducible first | refine zaa _ _ ?_ | refine zah ?_ | refine zai ?_) | rw [zae] | simp only [pkS, TyB, hA, hB, pkY, Int.reduceEq, bne_self_eq_false, Int.reduceBEq, Int.reduceBNe, implies_true, forall_const, Nat.reduceSub, Nat.reduceEqDiff, Nat.reduceAdd, Nat.reduceMul, Nat.reduceLeDiff, Nat.reduceLT, Nat.reduceBEq, reduceCtorEq] | refine zab ?_ | refine zad (fun hb => ?_) (fun hb => ?_) | (refine And.intro ?_ ?_; focus ((try with_reducible refine zal ?_); first | (with_reducible rfl) | ((with_reducible first | refine zam ?_ | refine zaf ?_ | refine zac ?_); kernel_rfl) | (intros; omega) | (intro q p; rw [q, p]; rfl) | (intro q; rw [q]; rfl) | (intro q; simp only [Bool.and_eq_true, decide_eq_true_eq, beq_iff_eq] at q; omega) | (intros; simp_all; done) | (intros; simp [List.range, List.range.loop]; done) | (intros; simp_all [List.range, List.range.loop]; done))) | refine And.intro (fun hg => ?_) (fun hg => ?_) | (with_reducible refine zac ?_; kernel_rfl) | fail)
  · have hs : replyB r = false := by
      unfold replyB
      rw [show (decide (r.code < 0) || decide (r.code > 12) || decide (r.session < 0) || decide (r.session > High) || decide (r.ahead < 0) || decide (r.ahead > 3)) = true from hA]
      rfl
    rw [hs]
    repeat' (first | (with_reducible first | refine zaa _ _ ?_ | refine zah ?_ | refine zai ?_) | rw [zae] | simp only [pkS, TyB, hA, pkY, Int.reduceEq, bne_self_eq_false, Int.reduceBEq, Int.reduceBNe, implies_true, forall_const, Nat.reduceSub, Nat.reduceEqDiff, Nat.reduceAdd, Nat.reduceMul, Nat.reduceLeDiff, Nat.reduceLT, Nat.reduceBEq, reduceCtorEq] | refine zab ?_ | refine zad (fun hb => ?_) (fun hb => ?_) | (refine And.intro ?_ ?_; focus ((try with_reducible refine zal ?_); first | (with_reducible rfl) | ((with_reducible first | refine zam ?_ | refine zaf ?_ | refine zac ?_); kernel_rfl) | (intros; omega) | (intro q p; rw [q, p]; rfl) | (intro q; rw [q]; rfl) | (intro q; simp only [Bool.and_eq_true, decide_eq_true_eq, beq_iff_eq] at q; omega) | (intros; simp_all; done) | (intros; simp [List.range, List.range.loop]; done) | (intros; simp_all [List.range, List.range.loop]; done))) | refine And.intro (fun hg => ?_) (fun hg => ?_) | (with_reducible refine zac ?_; kernel_rfl) | fail)
theorem zd0 (m : Memo) (hr : replyOk m.reply) : CallOK Try.prog 50 [.f (.agg m.lent)] (fun x o => x = [rb (answerB m)] ∧ o = []) := by
  refine zaq zaG mixed (T := Ty) (n := 26) Try.func50 (c := Try.f50.body.getD .skip) rfl Try.results50 Try.ntmps50 Try.call50 ?_
  simp only [Try.f50, Option.getD]
  repeat' (first | (with_reducible first | refine zaa _ _ ?_ | refine zah ?_ | refine zai ?_) | rw [zae] | simp only [pkS, TyB, pkY, Int.reduceEq, bne_self_eq_false, Int.reduceBEq, Int.reduceBNe, implies_true, forall_const, Nat.reduceSub, Nat.reduceEqDiff, Nat.reduceAdd, Nat.reduceMul, Nat.reduceLeDiff, Nat.reduceLT, Nat.reduceBEq, reduceCtorEq] | ((try refine zak ?_); apply zan; (solve | exact (zco m.reply hr) | (refine CallOK.le (zco m.reply hr) ?_; simp [argsLe, aLe, csLe, cLe]))) | (apply zaj; (focus (intro _; (solve | exact (zco m.reply hr) | (refine CallOK.le (zco m.reply hr) ?_; simp [argsLe, aLe, csLe, cLe])))); (focus rfl)) | refine zab ?_ | refine zad (fun hb => ?_) (fun hb => ?_) | (refine And.intro ?_ ?_; focus ((try with_reducible refine zal ?_); first | (with_reducible rfl) | ((with_reducible first | refine zam ?_ | refine zaf ?_ | refine zac ?_); kernel_rfl) | (intros; omega) | (intro q p; rw [q, p]; rfl) | (intro q; rw [q]; rfl) | (intro q; simp only [Bool.and_eq_true, decide_eq_true_eq, beq_iff_eq] at q; omega) | (intros; simp_all; done) | (intros; simp [List.range, List.range.loop]; done) | (intros; simp_all [List.range, List.range.loop]; done))) | refine And.intro (fun hg => ?_) (fun hg => ?_) | (with_reducible refine zac ?_; kernel_rfl) | fail)
  rfl
theorem mplace1_ok (x : Memo) (c : Int) : CallOK Try.prog 66 [.f (memoAV x), .f (ai c)] (fun r o => r = [ri (cmpI x.client c)] ∧ o = []) := by
  refine zaq zaG mixed (T := Ty) (n := 9) Try.func66 (c := Try.f66.body.getD .skip) rfl Try.results66 Try.ntmps66 Try.call66 ?_
  simp only [Try.f66, Option.getD]
  repeat' (first | (with_reducible first | refine zaa _ _ ?_ | refine zah ?_ | refine zai ?_) | rw [zae] | simp only [pkS, TyB, pkY, Int.reduceEq, bne_self_eq_false, Int.reduceBEq, Int.reduceBNe, implies_true, forall_const, Nat.reduceSub, Nat.reduceEqDiff, Nat.reduceAdd, Nat.reduceMul, Nat.reduceLeDiff, Nat.reduceLT, Nat.reduceBEq, reduceCtorEq] | ((try refine zak ?_); apply zan; (solve | exact (zbf x.client c) | (refine CallOK.le (zbf x.client c) ?_; simp [argsLe, aLe, csLe, cLe]))) | (apply zaj; (focus (intro _; (solve | exact (zbf x.client c) | (refine CallOK.le (zbf x.client c) ?_; simp [argsLe, aLe, csLe, cLe])))); (focus rfl)) | refine zab ?_ | refine zad (fun hb => ?_) (fun hb => ?_) | (refine And.intro ?_ ?_; focus ((try with_reducible refine zal ?_); first | (with_reducible rfl) | ((with_reducible first | refine zam ?_ | refine zaf ?_ | refine zac ?_); kernel_rfl) | (intros; omega) | (intro q p; rw [q, p]; rfl) | (intro q; rw [q]; rfl) | (intro q; simp only [Bool.and_eq_true, decide_eq_true_eq, beq_iff_eq] at q; omega) | (intros; simp_all; done) | (intros; simp [List.range, List.range.loop]; done) | (intros; simp_all [List.range, List.range.loop]; done))) | refine And.intro (fun hg => ?_) (fun hg => ?_) | (with_reducible refine zac ?_; kernel_rfl) | fail)
theorem zeP (l : List Memo) (hs : SM l) (hl : l.length < 2 ^ 62) (c : Int) : CallOK Try.prog 42 [.f (al l.length (memosE l)), .f (ai c)] (fun r o => r = [ri (posM l c), rb (findM l c).isSome] ∧ o = []) := by
  refine zaq zaG mixed (T := Ty) (n := 11) Try.func42 (c := Try.f42.body.getD .skip) rfl Try.results42 Try.ntmps42 Try.call42 ?_
  simp only [Try.f42, Option.getD]
  have h := zgT l hl c (fun x => cmpI x.client c) 66 (posM l c) zbt
    (fun j hj h => by have := zeK hj h; simp at this; exact zfW.2 this)
    (fun j hj h => by have := zeL hj (zhs hs c) h; simp at this; have h2 := @zfW l[j].client c; omega) (fun x _ => mplace1_ok x c)
  have e : ((l[posM l c]?.map fun x => cmpI x.client c == 0).getD false) = (findM l c).isSome := by
    rw [zgO hs, zfX]
    simp only [zgZ]
  rw [e] at h
  repeat' (first | (with_reducible first | refine zaa _ _ ?_ | refine zah ?_ | refine zai ?_) | rw [zae] | simp only [pkS, TyB, pkY, Int.reduceEq, bne_self_eq_false, Int.reduceBEq, Int.reduceBNe, implies_true, forall_const, Nat.reduceSub, Nat.reduceEqDiff, Nat.reduceAdd, Nat.reduceMul, Nat.reduceLeDiff, Nat.reduceLT, Nat.reduceBEq, reduceCtorEq] | ((try refine zak ?_); apply zan; (solve | exact (h) | (refine CallOK.le (h) ?_; simp [argsLe, aLe, csLe, cLe]))) | (apply zaj; (focus (intro _; (solve | exact (h) | (refine CallOK.le (h) ?_; simp [argsLe, aLe, csLe, cLe])))); (focus rfl)) | refine zab ?_ | refine zad (fun hb => ?_) (fun hb => ?_) | (refine And.intro ?_ ?_; focus ((try with_reducible refine zal ?_); first | (with_reducible rfl) | ((with_reducible first | refine zam ?_ | refine zaf ?_ | refine zac ?_); kernel_rfl) | (intros; omega) | (intro q p; rw [q, p]; rfl) | (intro q; rw [q]; rfl) | (intro q; simp only [Bool.and_eq_true, decide_eq_true_eq, beq_iff_eq] at q; omega) | (intros; simp_all; done) | (intros; simp [List.range, List.range.loop]; done) | (intros; simp_all [List.range, List.range.loop]; done))) | refine And.intro (fun hg => ?_) (fun hg => ?_) | (with_reducible refine zac ?_; kernel_rfl) | fail)
theorem mcopied_ok (l : List Memo) (hl : l.length < 2 ^ 30) (hll : ∀ m ∈ l, m.reply.held.length < 2 ^ 30) : CallOK Try.prog 49 [.f (al l.length (memosE l))] (fun r o => r = [.one (.own 6 l.length (memosE l) false)] ∧ o = []) := by
  refine zaq zaG mixed (T := Ty) (n := 26) Try.func49 (c := Try.f49.body.getD .skip) rfl Try.results49 Try.ntmps49 Try.call49 ?_
  simp only [Try.f49, Option.getD]
  have hcn := zfn l.length (memosE l) zaJ (by omega)
  repeat' (first | (with_reducible first | refine zaa _ _ ?_ | refine zah ?_ | refine zai ?_) | rw [zae] | simp only [pkS, TyB, zaJ, pkY, Int.reduceEq, bne_self_eq_false, Int.reduceBEq, Int.reduceBNe, implies_true, forall_const, Nat.reduceSub, Nat.reduceEqDiff, Nat.reduceAdd, Nat.reduceMul, Nat.reduceLeDiff, Nat.reduceLT, Nat.reduceBEq, reduceCtorEq] | ((try refine zak ?_); apply zan; (solve | exact (hcn) | (refine CallOK.le (hcn) ?_; simp [argsLe, aLe, csLe, cLe]))) | (apply zaj; (focus (intro _; (solve | exact (hcn) | (refine CallOK.le (hcn) ?_; simp [argsLe, aLe, csLe, cLe])))); (focus rfl)) | refine zab ?_ | refine zad (fun hb => ?_) (fun hb => ?_) | (refine And.intro ?_ ?_; focus ((try with_reducible refine zal ?_); first | (with_reducible rfl) | ((with_reducible first | refine zam ?_ | refine zaf ?_ | refine zac ?_); kernel_rfl) | (intros; omega) | (intro q p; rw [q, p]; rfl) | (intro q; rw [q]; rfl) | (intro q; simp only [Bool.and_eq_true, decide_eq_true_eq, beq_iff_eq] at q; omega) | (intros; simp_all; done) | (intros; simp [List.range, List.range.loop]; done) | (intros; simp_all [List.range, List.range.loop]; done))) | refine And.intro (fun hg => ?_) (fun hg => ?_) | (with_reducible refine zac ?_; kernel_rfl) | fail)
  refine zaH (τ := Nat) (fun i => ⟨[dd, dd, dd, .one (.own ⟨3, 1, 1⟩ 0 l.length), dd, dd, dd, dd, ai l.length, ai i, dd, dd, dd, dd, dd, dd, dd, dd, dd, dd, dd, dd, dd, dd, dd, dd], [(6, ⟨2, []⟩), (3, { next := 2, l := [none, some { e := 1, var := false, fz := false, sz := 6, cells := (memosE l).map C.d }] }), (20, ⟨2, []⟩)]⟩)
    (fun i => i ≤ l.length) (fun _ => ()) (fun i => l.length - i) 0
    (Gh.canon [3] [20] [] (by simp only [zar, zaz, zas, zat, zau, zav, List.set_cons_zero, List.set_cons_succ, and_true, true_and, Int.natCast_zero, Int.cast_ofNat_Int, D.v.injEq, Value.int.injEq]; try (repeat' (first | rfl | omega | with_reducible apply And.intro))) rfl rfl) (Nat.zero_le _) ?_
  intro i hi0 hF K hK
  repeat (first | with_reducible refine zaa _ _ ?_ | with_reducible refine And.imp_right (zaa _ _) ?_ | with_reducible refine And.imp_right (And.imp_right (zaa _ _)) ?_ | with_reducible refine And.imp_right (And.imp_right (And.imp_right (zaa _ _))) ?_ | rw [zae] | simp only [pkS, TyB,  implies_true, forall_const, Nat.reduceSub, Nat.reduceEqDiff, Nat.reduceAdd, Nat.reduceMul, Nat.reduceLeDiff, Nat.reduceLT, Nat.reduceBEq, reduceCtorEq])
  refine zad (fun hlt => ?_) (fun hge => ?_)
  · have hi : i < l.length := by simpa using hlt
    have hat := zbC hi
    have hat2 : (memosE l).drop (i * 6 + 2 + 3) = .sl l[i].reply.held.length (grantsE l[i].reply.held) :: memosE (l.drop (i + 1)) := by rw [Nat.add_assoc, ← List.drop_drop, hat]; rfl
    have hw := zaI hi (by omega)
    have hci := zcn l[i].reply.held.length (grantsE l[i].reply.held) zbv (by have := hll _ (List.getElem_mem hi); omega)
    have hset := zcC Memo.enc 6 (fun _ => rfl) hi (k := 5) (by decide) (.sl l[i].reply.held.length (grantsE l[i].reply.held)) l[i] rfl
    rw [List.set_getElem_self, show i * 6 + 5 = i * 6 + 2 + 3 from rfl] at hset
    repeat' (first | (with_reducible first | refine zaa _ _ ?_ | refine zah ?_ | refine zai ?_) | rw [zae] | simp only [pkS, TyB, hat2, hset, ← List.map_drop, List.map_cons, zaJ, pkY, Int.reduceEq, bne_self_eq_false, Int.reduceBEq, Int.reduceBNe, implies_true, forall_const, Nat.reduceSub, Nat.reduceEqDiff, Nat.reduceAdd, Nat.reduceMul, Nat.reduceLeDiff, Nat.reduceLT, Nat.reduceBEq, reduceCtorEq] | ((try refine zak ?_); apply zan; (solve | exact (hci) | (refine CallOK.le (hci) ?_; simp [argsLe, aLe, csLe, cLe]))) | (apply zaj; (focus (intro _; (solve | exact (hci) | (refine CallOK.le (hci) ?_; simp [argsLe, aLe, csLe, cLe])))); (focus rfl)) | refine zab ?_ | refine zad (fun hb => ?_) (fun hb => ?_) | (refine And.intro ?_ ?_; focus ((try with_reducible refine zal ?_); first | (with_reducible rfl) | ((with_reducible first | refine zam ?_ | refine zaf ?_ | refine zac ?_); kernel_rfl) | (intros; omega) | (intro q p; rw [q, p]; rfl) | (intro q; rw [q]; rfl) | (intro q; simp only [Bool.and_eq_true, decide_eq_true_eq, beq_iff_eq] at q; omega) | (intros; simp_all; done) | (intros; simp [List.range, List.range.loop]; done) | (intros; simp_all [List.range, List.range.loop]; done))) | refine And.intro (fun hg => ?_) (fun hg => ?_) | (with_reducible refine zac ?_; kernel_rfl) | fail)
    exact hK _ (i + 1) (Gh.canon [3] [] [] (by simp only [hw, zar, zaz, zas, zat, zau, zav, List.set_cons_zero, List.set_cons_succ, and_true, true_and, Int.natCast_zero, Int.cast_ofNat_Int, D.v.injEq, Value.int.injEq]; try (repeat' (first | rfl | omega | with_reducible apply And.intro))) rfl rfl) hi rfl (by omega)
  · have hi : i = l.length := by
      have : ¬ (i : Int) < l.length := by simpa using hge
      omega
    repeat' (first | (with_reducible first | refine zaa _ _ ?_ | refine zah ?_ | refine zai ?_) | rw [zae] | simp only [pkS, TyB, pkY, Int.reduceEq, bne_self_eq_false, Int.reduceBEq, Int.reduceBNe, implies_true, forall_const, Nat.reduceSub, Nat.reduceEqDiff, Nat.reduceAdd, Nat.reduceMul, Nat.reduceLeDiff, Nat.reduceLT, Nat.reduceBEq, reduceCtorEq] | refine zab ?_ | refine zad (fun hb => ?_) (fun hb => ?_) | (refine And.intro ?_ ?_; focus ((try with_reducible refine zal ?_); first | (with_reducible rfl) | ((with_reducible first | refine zam ?_ | refine zaf ?_ | refine zac ?_); kernel_rfl) | (intros; omega) | (intro q p; rw [q, p]; rfl) | (intro q; rw [q]; rfl) | (intro q; simp only [Bool.and_eq_true, decide_eq_true_eq, beq_iff_eq] at q; omega) | (intros; simp_all; done) | (intros; simp [List.range, List.range.loop]; done) | (intros; simp_all [List.range, List.range.loop]; done))) | refine And.intro (fun hg => ?_) (fun hg => ?_) | (with_reducible refine zac ?_; kernel_rfl) | fail)
theorem zib (l : List Memo) (hs : SM l) (hl : l.length < 2 ^ 30) (c q : Int) : CallOK Try.prog 19 [.f (al l.length (memosE l)), .f (ai c), .f (ai q)] (fun r o => r = [ri (freshP l c q)] ∧ o = []) := by
  refine zaq zaG mixed (T := Ty) (n := 35) Try.func19 (c := Try.f19.body.getD .skip) rfl Try.results19 Try.ntmps19 Try.call19 ?_
  simp only [Try.f19, Option.getD]
  have hp := zeP l hs (by omega) c
  cases hf : findM l c with
  | none =>
    rw [hf] at hp
    simp only [Option.isSome_none] at hp
    have hd : (memosE l).drop (posM l c * 6) = [] ∨ ∃ x q, (memosE l).drop (posM l c * 6) = Memo.enc x ++ q := by
      rcases Nat.lt_or_ge (posM l c) l.length with h | h
      · exact .inr ⟨_, _, zbC h⟩
      · exact .inl (List.drop_of_length_le (by rw [zaJ]; omega))
    have hfr : freshP l c q = 1 := by unfold freshP; rw [hf]
    rw [hfr]
    rcases hd with hat | ⟨x, q, hat⟩
    · repeat' (first | (with_reducible first | refine zaa _ _ ?_ | refine zah ?_ | refine zai ?_) | rw [zae] | simp only [pkS, TyB, hat, List.drop_nil, zaJ, pkY, Int.reduceEq, bne_self_eq_false, Int.reduceBEq, Int.reduceBNe, implies_true, forall_const, Nat.reduceSub, Nat.reduceEqDiff, Nat.reduceAdd, Nat.reduceMul, Nat.reduceLeDiff, Nat.reduceLT, Nat.reduceBEq, reduceCtorEq] | ((try refine zak ?_); apply zan; (solve | exact (hp) | (refine CallOK.le (hp) ?_; simp [argsLe, aLe, csLe, cLe]))) | (apply zaj; (focus (intro _; (solve | exact (hp) | (refine CallOK.le (hp) ?_; simp [argsLe, aLe, csLe, cLe])))); (focus rfl)) | refine zab ?_ | refine zad (fun hb => ?_) (fun hb => ?_) | (refine And.intro ?_ ?_; focus ((try with_reducible refine zal ?_); first | (with_reducible rfl) | ((with_reducible first | refine zam ?_ | refine zaf ?_ | refine zac ?_); kernel_rfl) | (intros; omega) | (intro q p; rw [q, p]; rfl) | (intro q; rw [q]; rfl) | (intro q; simp only [Bool.and_eq_true, decide_eq_true_eq, beq_iff_eq] at q; omega) | (intros; simp_all; done) | (intros; simp [List.range, List.range.loop]; done) | (intros; simp_all [List.range, List.range.loop]; done))) | refine And.intro (fun hg => ?_) (fun hg => ?_) | (with_reducible refine zac ?_; kernel_rfl) | fail)
    · repeat' (first | (with_reducible first | refine zaa _ _ ?_ | refine zah ?_ | refine zai ?_) | rw [zae] | simp only [pkS, TyB, hat, List.cons_append, List.nil_append, zaJ, pkY, Int.reduceEq, bne_self_eq_false, Int.reduceBEq, Int.reduceBNe, implies_true, forall_const, Nat.reduceSub, Nat.reduceEqDiff, Nat.reduceAdd, Nat.reduceMul, Nat.reduceLeDiff, Nat.reduceLT, Nat.reduceBEq, reduceCtorEq] | ((try refine zak ?_); apply zan; (solve | exact (hp) | (refine CallOK.le (hp) ?_; simp [argsLe, aLe, csLe, cLe]))) | (apply zaj; (focus (intro _; (solve | exact (hp) | (refine CallOK.le (hp) ?_; simp [argsLe, aLe, csLe, cLe])))); (focus rfl)) | refine zab ?_ | refine zad (fun hb => ?_) (fun hb => ?_) | (refine And.intro ?_ ?_; focus ((try with_reducible refine zal ?_); first | (with_reducible rfl) | ((with_reducible first | refine zam ?_ | refine zaf ?_ | refine zac ?_); kernel_rfl) | (intros; omega) | (intro q p; rw [q, p]; rfl) | (intro q; rw [q]; rfl) | (intro q; simp only [Bool.and_eq_true, decide_eq_true_eq, beq_iff_eq] at q; omega) | (intros; simp_all; done) | (intros; simp [List.range, List.range.loop]; done) | (intros; simp_all [List.range, List.range.loop]; done))) | refine And.intro (fun hg => ?_) (fun hg => ?_) | (with_reducible refine zac ?_; kernel_rfl) | fail)
  | some x =>
    rw [hf] at hp
    simp only [Option.isSome_some] at hp
    obtain ⟨⟨hi, he⟩, hc⟩ := zdD hs hf
    have hat := zbC hi
    rw [he] at hat
    have hfr : freshP l c q = if x.seq < q then 1 else if x.seq = q then 0 else -1 := by unfold freshP; rw [hf]
    rw [hfr]
    repeat' (first | (with_reducible first | refine zaa _ _ ?_ | refine zah ?_ | refine zai ?_) | rw [zae] | simp only [pkS, TyB, hat, List.cons_append, List.nil_append, zaJ, pkY, Int.reduceEq, bne_self_eq_false, Int.reduceBEq, Int.reduceBNe, implies_true, forall_const, Nat.reduceSub, Nat.reduceEqDiff, Nat.reduceAdd, Nat.reduceMul, Nat.reduceLeDiff, Nat.reduceLT, Nat.reduceBEq, reduceCtorEq] | ((try refine zak ?_); apply zan; (solve | exact (hp) | (refine CallOK.le (hp) ?_; simp [argsLe, aLe, csLe, cLe]))) | (apply zaj; (focus (intro _; (solve | exact (hp) | (refine CallOK.le (hp) ?_; simp [argsLe, aLe, csLe, cLe])))); (focus rfl)) | refine zab ?_ | refine zad (fun hb => ?_) (fun hb => ?_) | (refine And.intro ?_ ?_; focus ((try with_reducible refine zal ?_); first | (with_reducible rfl) | ((with_reducible first | refine zam ?_ | refine zaf ?_ | refine zac ?_); kernel_rfl) | (intros; omega) | (intro q p; rw [q, p]; rfl) | (intro q; rw [q]; rfl) | (intro q; simp only [Bool.and_eq_true, decide_eq_true_eq, beq_iff_eq] at q; omega) | (intros; simp_all; done) | (intros; simp [List.range, List.range.loop]; done) | (intros; simp_all [List.range, List.range.loop]; done))) | refine And.intro (fun hg => ?_) (fun hg => ?_) | (with_reducible refine zac ?_; kernel_rfl) | fail)
    · rw [if_pos (by simpa using hb)]
    · rename_i h1
      rw [if_neg (by simpa using h1), if_pos (by simpa using hb)]
    · rename_i h1
      rw [if_neg (by simpa using h1), if_neg (by simpa using hb)]
def noMemo : Memo := ⟨0, 0, ⟨0, 0, 0, []⟩⟩
theorem last_ok (l : List Memo) (hs : SM l) (hl : l.length < 2 ^ 30) (hll : ∀ m ∈ l, m.reply.held.length < 2 ^ 30) (c : Int) : CallOK Try.prog 20 [.f (al l.length (memosE l)), .f (ai c)]
    (fun r o => r = [.agg [.d (iD ((findM l c).getD noMemo).client), .d (iD ((findM l c).getD noMemo).seq), .d (iD ((findM l c).getD noMemo).reply.code), .d (iD ((findM l c).getD noMemo).reply.session), .d (iD ((findM l c).getD noMemo).reply.ahead), .own 2 ((findM l c).getD noMemo).reply.held.length (grantsE ((findM l c).getD noMemo).reply.held) false], rb (findM l c).isSome] ∧ o = []) := by
  refine CallOK.nil ?_
  refine zaq zaG mixed (T := Ty) (n := 29) Try.func20 (c := Try.f20.body.getD .skip) rfl Try.results20 Try.ntmps20 Try.call20 ?_
  simp only [Try.f20, Option.getD]
  have hp := zeP l hs (by omega) c
  cases hf : findM l c with
  | none =>
    rw [hf] at hp
    simp only [Option.isSome_none] at hp
    repeat' (first | (with_reducible first | refine zaa _ _ ?_ | refine zah ?_ | refine zai ?_) | rw [zae] | simp only [pkS, TyB, zaJ, pkY, Int.reduceEq, bne_self_eq_false, Int.reduceBEq, Int.reduceBNe, implies_true, forall_const, Nat.reduceSub, Nat.reduceEqDiff, Nat.reduceAdd, Nat.reduceMul, Nat.reduceLeDiff, Nat.reduceLT, Nat.reduceBEq, reduceCtorEq] | ((try refine zak ?_); apply zan; (solve | exact (hp) | (refine CallOK.le (hp) ?_; simp [argsLe, aLe, csLe, cLe]))) | (apply zaj; (focus (intro _; (solve | exact (hp) | (refine CallOK.le (hp) ?_; simp [argsLe, aLe, csLe, cLe])))); (focus rfl)) | refine zab ?_ | refine zad (fun hb => ?_) (fun hb => ?_) | (refine And.intro ?_ ?_; focus ((try with_reducible refine zal ?_); first | (with_reducible rfl) | ((with_reducible first | refine zam ?_ | refine zaf ?_ | refine zac ?_); kernel_rfl) | (intros; omega) | (intro q p; rw [q, p]; rfl) | (intro q; rw [q]; rfl) | (intro q; simp only [Bool.and_eq_true, decide_eq_true_eq, beq_iff_eq] at q; omega) | (intros; simp_all; done) | (intros; simp [List.range, List.range.loop]; done) | (intros; simp_all [List.range, List.range.loop]; done))) | refine And.intro (fun hg => ?_) (fun hg => ?_) | (with_reducible refine zac ?_; kernel_rfl) | fail)
    simp [rfsLe, rfLe, rosLe, roLe, noMemo]
  | some x =>
    rw [hf] at hp
    simp only [Option.isSome_some] at hp
    obtain ⟨⟨hi, he⟩, hc⟩ := zdD hs hf
    have hat := zbC hi
    rw [he] at hat
    have hci := zcn x.reply.held.length (grantsE x.reply.held) zbv (by have := hll x (he ▸ List.getElem_mem hi); omega)
    repeat' (first | (with_reducible first | refine zaa _ _ ?_ | refine zah ?_ | refine zai ?_) | rw [zae] | simp only [pkS, TyB, hat, List.cons_append, List.nil_append, zaJ, pkY, Int.reduceEq, bne_self_eq_false, Int.reduceBEq, Int.reduceBNe, implies_true, forall_const, Nat.reduceSub, Nat.reduceEqDiff, Nat.reduceAdd, Nat.reduceMul, Nat.reduceLeDiff, Nat.reduceLT, Nat.reduceBEq, reduceCtorEq] | ((try refine zak ?_); apply zan; (solve | exact (hp) | exact (hci) | (refine CallOK.le (hp) ?_; simp [argsLe, aLe, csLe, cLe]) | (refine CallOK.le (hci) ?_; simp [argsLe, aLe, csLe, cLe]))) | (apply zaj; (focus (intro _; (solve | exact (hp) | exact (hci) | (refine CallOK.le (hp) ?_; simp [argsLe, aLe, csLe, cLe]) | (refine CallOK.le (hci) ?_; simp [argsLe, aLe, csLe, cLe])))); (focus rfl)) | refine zab ?_ | refine zad (fun hb => ?_) (fun hb => ?_) | (refine And.intro ?_ ?_; focus ((try with_reducible refine zal ?_); first | (with_reducible rfl) | ((with_reducible first | refine zam ?_ | refine zaf ?_ | refine zac ?_); kernel_rfl) | (intros; omega) | (intro q p; rw [q, p]; rfl) | (intro q; rw [q]; rfl) | (intro q; simp only [Bool.and_eq_true, decide_eq_true_eq, beq_iff_eq] at q; omega) | (intros; simp_all; done) | (intros; simp [List.range, List.range.loop]; done) | (intros; simp_all [List.range, List.range.loop]; done))) | refine And.intro (fun hg => ?_) (fun hg => ?_) | (with_reducible refine zac ?_; kernel_rfl) | fail)
    simp [rfsLe, rfLe, rosLe, roLe]
set_option maxHeartbeats 2000000 in
theorem keep_ok (l : List Memo) (hs : SM l) (hl : l.length < 2 ^ 30) (hll : ∀ m ∈ l, m.reply.held.length < 2 ^ 30) (a : Memo) (ha : replyOk a.reply) : CallOK Try.prog 22 [.f (al l.length (memosE l)), .f (.agg a.lent)]
    (fun r o => r = [.one (.own 6 (keepP l a).length (memosE (keepP l a)) false)] ∧ o = []) := by
  refine zaq zaG mixed (T := Ty) (n := 55) Try.func22 (c := Try.f22.body.getD .skip) rfl Try.results22 Try.ntmps22 Try.call22 ?_
  simp only [Try.f22, Option.getD]
  have hcp := mcopied_ok l hl hll
  have hma := zd0 a ha
  have hfr := zib l hs hl a.client a.seq
  have hp := zeP l hs (by omega) a.client
  have hci := zcn a.reply.held.length (grantsE a.reply.held) zbv (by have := ha.1; omega)
  cases hA : answerB a
  · have hk : keepP l a = l := by unfold keepP; rw [hA]; rfl
    rw [hk]
    rw [hA] at hma
    repeat' (first | (with_reducible first | refine zaa _ _ ?_ | refine zah ?_ | refine zai ?_) | rw [zae] | simp only [pkS, TyB, zaJ, pkY, Int.reduceEq, bne_self_eq_false, Int.reduceBEq, Int.reduceBNe, implies_true, forall_const, Nat.reduceSub, Nat.reduceEqDiff, Nat.reduceAdd, Nat.reduceMul, Nat.reduceLeDiff, Nat.reduceLT, Nat.reduceBEq, reduceCtorEq] | ((try refine zak ?_); apply zan; (solve | exact (hcp) | exact (hma) | exact (hfr) | (refine CallOK.le (hcp) ?_; simp [argsLe, aLe, csLe, cLe]) | (refine CallOK.le (hma) ?_; simp [argsLe, aLe, csLe, cLe]) | (refine CallOK.le (hfr) ?_; simp [argsLe, aLe, csLe, cLe]))) | (apply zaj; (focus (intro _; (solve | exact (hcp) | exact (hma) | exact (hfr) | (refine CallOK.le (hcp) ?_; simp [argsLe, aLe, csLe, cLe]) | (refine CallOK.le (hma) ?_; simp [argsLe, aLe, csLe, cLe]) | (refine CallOK.le (hfr) ?_; simp [argsLe, aLe, csLe, cLe])))); (focus rfl)) | refine zab ?_ | refine zad (fun hb => ?_) (fun hb => ?_) | (refine And.intro ?_ ?_; focus ((try with_reducible refine zal ?_); first | (with_reducible rfl) | ((with_reducible first | refine zam ?_ | refine zaf ?_ | refine zac ?_); kernel_rfl) | (intros; omega) | (intro q p; rw [q, p]; rfl) | (intro q; rw [q]; rfl) | (intro q; simp only [Bool.and_eq_true, decide_eq_true_eq, beq_iff_eq] at q; omega) | (intros; simp_all; done) | (intros; simp [List.range, List.range.loop]; done) | (intros; simp_all [List.range, List.range.loop]; done))) | refine And.intro (fun hg => ?_) (fun hg => ?_) | (with_reducible refine zac ?_; kernel_rfl) | fail)
  · rw [hA] at hma
    cases hB : freshP l a.client a.seq != 1
    · have hk : keepP l a = if (findM l a.client).isSome = true then l.set (posM l a.client) a else l.take (posM l a.client) ++ a :: l.drop (posM l a.client) := by unfold keepP; rw [hA, hB]; rfl
      rw [hk]
      cases hf : (findM l a.client).isSome
      · rw [hf] at hp
        rw [if_neg (by simp)]
        have hin := insMemo_ok l.length (posM l a.client) (memosE l) a.enc zaJ rfl zbt hl
        have hti := zhv Memo.enc 6 (fun _ => rfl) (l := l) (k := posM l a.client) zbt a
        have htl := zeN (l := l) (k := posM l a.client) zbt a
        simp only [htl, hti]
        repeat' (first | (with_reducible first | refine zaa _ _ ?_ | refine zah ?_ | refine zai ?_) | rw [zae] | simp only [pkS, TyB, zaJ, hB, pkY, Int.reduceEq, bne_self_eq_false, Int.reduceBEq, Int.reduceBNe, implies_true, forall_const, Nat.reduceSub, Nat.reduceEqDiff, Nat.reduceAdd, Nat.reduceMul, Nat.reduceLeDiff, Nat.reduceLT, Nat.reduceBEq, reduceCtorEq] | ((try refine zak ?_); apply zan; (solve | exact (hcp) | exact (hma) | exact (hfr) | exact (hci) | exact (hp) | (refine CallOK.le (hcp) ?_; simp [argsLe, aLe, csLe, cLe]) | (refine CallOK.le (hma) ?_; simp [argsLe, aLe, csLe, cLe]) | (refine CallOK.le (hfr) ?_; simp [argsLe, aLe, csLe, cLe]) | (refine CallOK.le (hci) ?_; simp [argsLe, aLe, csLe, cLe]) | (refine CallOK.le (hp) ?_; simp [argsLe, aLe, csLe, cLe]))) | (apply zaj; (focus (intro _; (solve | exact (hcp) | exact (hma) | exact (hfr) | exact (hci) | exact (hp) | (refine CallOK.le (hcp) ?_; simp [argsLe, aLe, csLe, cLe]) | (refine CallOK.le (hma) ?_; simp [argsLe, aLe, csLe, cLe]) | (refine CallOK.le (hfr) ?_; simp [argsLe, aLe, csLe, cLe]) | (refine CallOK.le (hci) ?_; simp [argsLe, aLe, csLe, cLe]) | (refine CallOK.le (hp) ?_; simp [argsLe, aLe, csLe, cLe])))); (focus rfl)) | refine zab ?_ | refine zad (fun hb => ?_) (fun hb => ?_) | (refine And.intro ?_ ?_; focus ((try with_reducible refine zal ?_); first | (with_reducible rfl) | ((with_reducible first | refine zam ?_ | refine zaf ?_ | refine zac ?_); kernel_rfl) | (intros; omega) | (intro q p; rw [q, p]; rfl) | (intro q; rw [q]; rfl) | (intro q; simp only [Bool.and_eq_true, decide_eq_true_eq, beq_iff_eq] at q; omega) | (intros; simp_all; done) | (intros; simp [List.range, List.range.loop]; done) | (intros; simp_all [List.range, List.range.loop]; done))) | refine And.intro (fun hg => ?_) (fun hg => ?_) | (with_reducible refine zac ?_; kernel_rfl) | fail)
        refine zbb (mv := ?mv1) (lent := ?le1) 0 ?ha1 (hin) ?hb1 ?hc1
        case ha1 => (try simp only [pkS, TyB, zaC, implies_true, forall_const, Nat.reduceSub, Nat.reduceEqDiff, Nat.reduceAdd, Nat.reduceMul, Nat.reduceLeDiff, Nat.reduceLT, Nat.reduceBEq, reduceCtorEq]); exact rfl
        case hb1 => (try simp only [pkS, TyB, scM, implies_true, forall_const, Nat.reduceSub, Nat.reduceEqDiff, Nat.reduceAdd, Nat.reduceMul, Nat.reduceLeDiff, Nat.reduceLT, Nat.reduceBEq, reduceCtorEq]); repeat' (first | rfl | trivial | omega | with_reducible refine And.intro ?_ ?_)
        show aops _ _ _ _ _ _ _ _
        repeat' (first | (with_reducible first | refine zaa _ _ ?_ | refine zah ?_ | refine zai ?_) | rw [zae] | simp only [pkS, TyB, pkY, Int.reduceEq, bne_self_eq_false, Int.reduceBEq, Int.reduceBNe, implies_true, forall_const, Nat.reduceSub, Nat.reduceEqDiff, Nat.reduceAdd, Nat.reduceMul, Nat.reduceLeDiff, Nat.reduceLT, Nat.reduceBEq, reduceCtorEq] | refine zab ?_ | refine zad (fun hb => ?_) (fun hb => ?_) | (refine And.intro ?_ ?_; focus ((try with_reducible refine zal ?_); first | (with_reducible rfl) | ((with_reducible first | refine zam ?_ | refine zaf ?_ | refine zac ?_); kernel_rfl) | (intros; omega) | (intro q p; rw [q, p]; rfl) | (intro q; rw [q]; rfl) | (intro q; simp only [Bool.and_eq_true, decide_eq_true_eq, beq_iff_eq] at q; omega) | (intros; simp_all; done) | (intros; simp [List.range, List.range.loop]; done) | (intros; simp_all [List.range, List.range.loop]; done))) | refine And.intro (fun hg => ?_) (fun hg => ?_) | (with_reducible refine zac ?_; kernel_rfl) | fail)
      · rw [hf] at hp
        rw [if_pos rfl]
        obtain ⟨x, hx⟩ := Option.isSome_iff_exists.1 hf
        obtain ⟨⟨hi, he⟩, hc⟩ := zdD hs hx
        have hset := zef Memo.enc 6 (fun _ => rfl) hi a
        simp only [fillAt, List.map_cons, List.map_nil] at hset
        repeat' (first | (with_reducible first | refine zaa _ _ ?_ | refine zah ?_ | refine zai ?_) | rw [zae] | simp only [pkS, TyB, zaJ, hB, hset, pkY, Int.reduceEq, bne_self_eq_false, Int.reduceBEq, Int.reduceBNe, implies_true, forall_const, Nat.reduceSub, Nat.reduceEqDiff, Nat.reduceAdd, Nat.reduceMul, Nat.reduceLeDiff, Nat.reduceLT, Nat.reduceBEq, reduceCtorEq] | ((try refine zak ?_); apply zan; (solve | exact (hcp) | exact (hma) | exact (hfr) | exact (hci) | exact (hp) | (refine CallOK.le (hcp) ?_; simp [argsLe, aLe, csLe, cLe]) | (refine CallOK.le (hma) ?_; simp [argsLe, aLe, csLe, cLe]) | (refine CallOK.le (hfr) ?_; simp [argsLe, aLe, csLe, cLe]) | (refine CallOK.le (hci) ?_; simp [argsLe, aLe, csLe, cLe]) | (refine CallOK.le (hp) ?_; simp [argsLe, aLe, csLe, cLe]))) | (apply zaj; (focus (intro _; (solve | exact (hcp) | exact (hma) | exact (hfr) | exact (hci) | exact (hp) | (refine CallOK.le (hcp) ?_; simp [argsLe, aLe, csLe, cLe]) | (refine CallOK.le (hma) ?_; simp [argsLe, aLe, csLe, cLe]) | (refine CallOK.le (hfr) ?_; simp [argsLe, aLe, csLe, cLe]) | (refine CallOK.le (hci) ?_; simp [argsLe, aLe, csLe, cLe]) | (refine CallOK.le (hp) ?_; simp [argsLe, aLe, csLe, cLe])))); (focus rfl)) | refine zab ?_ | refine zad (fun hb => ?_) (fun hb => ?_) | (refine And.intro ?_ ?_; focus ((try with_reducible refine zal ?_); first | (with_reducible rfl) | ((with_reducible first | refine zam ?_ | refine zaf ?_ | refine zac ?_); kernel_rfl) | (intros; omega) | (intro q p; rw [q, p]; rfl) | (intro q; rw [q]; rfl) | (intro q; simp only [Bool.and_eq_true, decide_eq_true_eq, beq_iff_eq] at q; omega) | (intros; simp_all; done) | (intros; simp [List.range, List.range.loop]; done) | (intros; simp_all [List.range, List.range.loop]; done))) | refine And.intro (fun hg => ?_) (fun hg => ?_) | (with_reducible refine zac ?_; kernel_rfl) | fail)
        rw [List.length_set]
    · have hk : keepP l a = l := by unfold keepP; rw [hB, Bool.or_true]; rfl
      rw [hk]
      repeat' (first | (with_reducible first | refine zaa _ _ ?_ | refine zah ?_ | refine zai ?_) | rw [zae] | simp only [pkS, TyB, zaJ, hB, pkY, Int.reduceEq, bne_self_eq_false, Int.reduceBEq, Int.reduceBNe, implies_true, forall_const, Nat.reduceSub, Nat.reduceEqDiff, Nat.reduceAdd, Nat.reduceMul, Nat.reduceLeDiff, Nat.reduceLT, Nat.reduceBEq, reduceCtorEq] | ((try refine zak ?_); apply zan; (solve | exact (hcp) | exact (hma) | exact (hfr) | (refine CallOK.le (hcp) ?_; simp [argsLe, aLe, csLe, cLe]) | (refine CallOK.le (hma) ?_; simp [argsLe, aLe, csLe, cLe]) | (refine CallOK.le (hfr) ?_; simp [argsLe, aLe, csLe, cLe]))) | (apply zaj; (focus (intro _; (solve | exact (hcp) | exact (hma) | exact (hfr) | (refine CallOK.le (hcp) ?_; simp [argsLe, aLe, csLe, cLe]) | (refine CallOK.le (hma) ?_; simp [argsLe, aLe, csLe, cLe]) | (refine CallOK.le (hfr) ?_; simp [argsLe, aLe, csLe, cLe])))); (focus rfl)) | refine zab ?_ | refine zad (fun hb => ?_) (fun hb => ?_) | (refine And.intro ?_ ?_; focus ((try with_reducible refine zal ?_); first | (with_reducible rfl) | ((with_reducible first | refine zam ?_ | refine zaf ?_ | refine zac ?_); kernel_rfl) | (intros; omega) | (intro q p; rw [q, p]; rfl) | (intro q; rw [q]; rfl) | (intro q; simp only [Bool.and_eq_true, decide_eq_true_eq, beq_iff_eq] at q; omega) | (intros; simp_all; done) | (intros; simp [List.range, List.range.loop]; done) | (intros; simp_all [List.range, List.range.loop]; done))) | refine And.intro (fun hg => ?_) (fun hg => ?_) | (with_reducible refine zac ?_; kernel_rfl) | fail)
theorem zgV (l : List Memo) (hl : l.length < 2 ^ 30) (hll : ∀ m ∈ l, replyOk m.reply) : CallOK Try.prog 28 [.f (al l.length (memosE l))] (fun r o => r = [rb (memoB l)] ∧ o = []) := by
  refine zaq zaG mixed (T := Ty) (n := 37) Try.func28 (c := Try.f28.body.getD .skip) rfl Try.results28 Try.ntmps28 Try.call28 ?_
  simp only [Try.f28, Option.getD]
  repeat' (first | (with_reducible first | refine zaa _ _ ?_ | refine zah ?_ | refine zai ?_) | rw [zae] | simp only [pkS, TyB, zaJ, pkY, Int.reduceEq, bne_self_eq_false, Int.reduceBEq, Int.reduceBNe, implies_true, forall_const, Nat.reduceSub, Nat.reduceEqDiff, Nat.reduceAdd, Nat.reduceMul, Nat.reduceLeDiff, Nat.reduceLT, Nat.reduceBEq, reduceCtorEq] | refine zab ?_ | refine zad (fun hb => ?_) (fun hb => ?_) | (refine And.intro ?_ ?_; focus ((try with_reducible refine zal ?_); first | (with_reducible rfl) | ((with_reducible first | refine zam ?_ | refine zaf ?_ | refine zac ?_); kernel_rfl) | (intros; omega) | (intro q p; rw [q, p]; rfl) | (intro q; rw [q]; rfl) | (intro q; simp only [Bool.and_eq_true, decide_eq_true_eq, beq_iff_eq] at q; omega) | (intros; simp_all; done) | (intros; simp [List.range, List.range.loop]; done) | (intros; simp_all [List.range, List.range.loop]; done))) | refine And.intro (fun hg => ?_) (fun hg => ?_) | (with_reducible refine zac ?_; kernel_rfl) | fail)
  refine zaH (τ := Nat) (fun i => ⟨[al l.length (memosE l), dd, dd, dd, dd, al l.length (memosE l), ai l.length, ai i, dd, dd, dd, dd, dd, dd, dd, dd, dd, dd, dd, dd, dd, dd, dd, dd, dd, dd, dd, dd, dd, dd, dd, dd, dd, dd, dd, dd, dd], [(4, ⟨2, []⟩)]⟩)
    (fun i => i ≤ l.length) (fun i => checkP (memoQ l) i (l.drop i)) (fun i => l.length - i) 0
    (Gh.canon [] [4] [] (by simp only [zar, zaz, zas, zat, zau, zav, List.set_cons_zero, List.set_cons_succ, and_true, true_and, Int.natCast_zero, Int.cast_ofNat_Int, D.v.injEq, Value.int.injEq]; try (repeat' (first | rfl | omega | with_reducible apply And.intro))) rfl rfl) (Nat.zero_le _) ?_
  intro i hi0 hF K hK
  rw [List.drop_zero] at hF
  repeat (first | with_reducible refine zaa _ _ ?_ | with_reducible refine And.imp_right (zaa _ _) ?_ | with_reducible refine And.imp_right (And.imp_right (zaa _ _)) ?_ | with_reducible refine And.imp_right (And.imp_right (And.imp_right (zaa _ _))) ?_ | rw [zae] | simp only [pkS, TyB,  implies_true, forall_const, Nat.reduceSub, Nat.reduceEqDiff, Nat.reduceAdd, Nat.reduceMul, Nat.reduceLeDiff, Nat.reduceLT, Nat.reduceBEq, reduceCtorEq])
  refine zad (fun hlt => ?_) (fun hge => ?_)
  · have hi : i < l.length := by simpa using hlt
    have hat := zbC hi
    have hw := zaI hi (by omega)
    rw [zaM hi] at hF
    have hma := zd0 l[i] (hll _ (List.getElem_mem hi))
    cases e0 : decide ((i : Int) > 0)
    · have h0 : i = 0 := by simpa using e0
      have hq : memoQ l i l[i] = !(!answerB l[i]) := by
        unfold memoQ
        have : decide (i > 0) = false := by simpa using e0
        rw [this, Bool.false_and, Bool.or_false]
      have hp : (memosE l).drop ((IntKind.i64.wrap ((i : Int) - 1)).toNat * 6) = l[i].enc ++ memosE (l.drop (i + 1)) := by
        rw [← zbC hi, h0]; rfl
      repeat' (first | (with_reducible first | refine zaa _ _ ?_ | refine zah ?_ | refine zai ?_) | rw [zae] | simp only [pkS, TyB, hat, hp, e0, List.cons_append, List.nil_append, zaJ, pkY, Int.reduceEq, bne_self_eq_false, Int.reduceBEq, Int.reduceBNe, implies_true, forall_const, Nat.reduceSub, Nat.reduceEqDiff, Nat.reduceAdd, Nat.reduceMul, Nat.reduceLeDiff, Nat.reduceLT, Nat.reduceBEq, reduceCtorEq] | ((try refine zak ?_); apply zan; (solve | exact (hma) | (refine CallOK.le (hma) ?_; simp [argsLe, aLe, csLe, cLe]))) | (apply zaj; (focus (intro _; (solve | exact (hma) | (refine CallOK.le (hma) ?_; simp [argsLe, aLe, csLe, cLe])))); (focus rfl)) | refine zab ?_ | refine zad (fun hb => ?_) (fun hb => ?_) | (refine And.intro ?_ ?_; focus ((try with_reducible refine zal ?_); first | (with_reducible rfl) | ((with_reducible first | refine zam ?_ | refine zaf ?_ | refine zac ?_); kernel_rfl) | (intros; omega) | (intro q p; rw [q, p]; rfl) | (intro q; rw [q]; rfl) | (intro q; simp only [Bool.and_eq_true, decide_eq_true_eq, beq_iff_eq] at q; omega) | (intros; simp_all; done) | (intros; simp [List.range, List.range.loop]; done) | (intros; simp_all [List.range, List.range.loop]; done))) | refine And.intro (fun hg => ?_) (fun hg => ?_) | (with_reducible refine zac ?_; kernel_rfl) | fail)
      · rw [hq, hb, if_neg (by simp)] at hF
        unfold memoB
        rw [← hF]
      · exact hK _ (i + 1) (Gh.canon [] [] [] (by simp only [hw, zar, zaz, zas, zat, zau, zav, List.set_cons_zero, List.set_cons_succ, and_true, true_and, Int.natCast_zero, Int.cast_ofNat_Int, D.v.injEq, Value.int.injEq]; try (repeat' (first | rfl | omega | with_reducible apply And.intro))) rfl rfl) hi (by rw [zaM hi, hq, hb]; rfl) (by omega)
    · have h0 : 0 < i := by simpa using e0
      have hq : memoQ l i l[i] = !(!answerB l[i] || decide ((l[i - 1]'(by omega)).client ≥ l[i].client)) := by
        unfold memoQ prevM
        have : decide (i > 0) = true := by simpa using e0
        rw [this, List.getElem?_eq_getElem (by omega)]
        simp only [Bool.true_and, Option.map_some, Option.getD_some]
      have hp := zbC (show i - 1 < l.length by omega)
      have hw1 : IntKind.i64.wrap ((i : Int) - 1) = ((i - 1 : Nat) : Int) := by rw [wrap64 (by omega) (by omega)]; omega
      repeat' (first | (with_reducible first | refine zaa _ _ ?_ | refine zah ?_ | refine zai ?_) | rw [zae] | simp only [pkS, TyB, hat, hp, hw1, e0, List.cons_append, List.nil_append, zaJ, pkY, Int.reduceEq, bne_self_eq_false, Int.reduceBEq, Int.reduceBNe, implies_true, forall_const, Nat.reduceSub, Nat.reduceEqDiff, Nat.reduceAdd, Nat.reduceMul, Nat.reduceLeDiff, Nat.reduceLT, Nat.reduceBEq, reduceCtorEq] | ((try refine zak ?_); apply zan; (solve | exact (hma) | (refine CallOK.le (hma) ?_; simp [argsLe, aLe, csLe, cLe]))) | (apply zaj; (focus (intro _; (solve | exact (hma) | (refine CallOK.le (hma) ?_; simp [argsLe, aLe, csLe, cLe])))); (focus rfl)) | refine zab ?_ | refine zad (fun hb => ?_) (fun hb => ?_) | (refine And.intro ?_ ?_; focus ((try with_reducible refine zal ?_); first | (with_reducible rfl) | ((with_reducible first | refine zam ?_ | refine zaf ?_ | refine zac ?_); kernel_rfl) | (intros; omega) | (intro q p; rw [q, p]; rfl) | (intro q; rw [q]; rfl) | (intro q; simp only [Bool.and_eq_true, decide_eq_true_eq, beq_iff_eq] at q; omega) | (intros; simp_all; done) | (intros; simp [List.range, List.range.loop]; done) | (intros; simp_all [List.range, List.range.loop]; done))) | refine And.intro (fun hg => ?_) (fun hg => ?_) | (with_reducible refine zac ?_; kernel_rfl) | fail)
      · rw [hq, hb, if_neg (by simp)] at hF
        unfold memoB
        rw [← hF]
      · exact hK _ (i + 1) (Gh.canon [] [] [] (by simp only [hw, zar, zaz, zas, zat, zau, zav, List.set_cons_zero, List.set_cons_succ, and_true, true_and, Int.natCast_zero, Int.cast_ofNat_Int, D.v.injEq, Value.int.injEq]; try (repeat' (first | rfl | omega | with_reducible apply And.intro))) rfl rfl) hi (by rw [zaM hi, hq, hb]; rfl) (by omega)
  · have hi : i = l.length := by
      have : ¬ (i : Int) < l.length := by simpa using hge
      omega
    rw [zcd hi] at hF
    unfold memoB
    rw [← hF]
    repeat' (first | (with_reducible first | refine zaa _ _ ?_ | refine zah ?_ | refine zai ?_) | rw [zae] | simp only [pkS, TyB, pkY, Int.reduceEq, bne_self_eq_false, Int.reduceBEq, Int.reduceBNe, implies_true, forall_const, Nat.reduceSub, Nat.reduceEqDiff, Nat.reduceAdd, Nat.reduceMul, Nat.reduceLeDiff, Nat.reduceLT, Nat.reduceBEq, reduceCtorEq] | refine zab ?_ | refine zad (fun hb => ?_) (fun hb => ?_) | (refine And.intro ?_ ?_; focus ((try with_reducible refine zal ?_); first | (with_reducible rfl) | ((with_reducible first | refine zam ?_ | refine zaf ?_ | refine zac ?_); kernel_rfl) | (intros; omega) | (intro q p; rw [q, p]; rfl) | (intro q; rw [q]; rfl) | (intro q; simp only [Bool.and_eq_true, decide_eq_true_eq, beq_iff_eq] at q; omega) | (intros; simp_all; done) | (intros; simp [List.range, List.range.loop]; done) | (intros; simp_all [List.range, List.range.loop]; done))) | refine And.intro (fun hg => ?_) (fun hg => ?_) | (with_reducible refine zac ?_; kernel_rfl) | fail)
end Go.Proofs.Ytniafckaafcpbaa
