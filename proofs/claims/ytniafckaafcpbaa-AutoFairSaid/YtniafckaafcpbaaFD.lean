import Derived.Test.YtniafckaafcpbaaFC
import Derived.Test.YtniafckaafcpbaaTY
import Derived.Test.YtniafckaafcpbaaY
namespace Go.Proofs.Ytniafckaafcpbaa
open Go.Pk
set_option maxRecDepth 100000
set_option linter.unusedSimpArgs false
set_option linter.unusedVariables false
theorem zg1 {l : List Int} {i : Nat} (hi : i < l.length) : (bytesE l).drop i = uD l[i] :: bytesE (l.drop (i + 1)) := by
  have := zcj (fun n => [uD n]) 1 l i hi fun _ => rfl
  rw [Nat.mul_one] at this
  exact this
theorem zcg {l : List Int} : (bytesE l).length = l.length := by
  have := zbE (fun n => [uD n]) 1 (fun _ => rfl) l
  rw [Nat.mul_one] at this
  exact this
theorem token_ok (r : Reply) (hr : replyOk r) (L : ByteArray) : CallOK Try.prog 12 [.f (.agg r.lent), .f (ast L)] (fun x o => x = [ri (tokenP r L)] ∧ o = []) := by
  refine zaq zaG mixed (T := Ty) (n := 27) Try.func12 (c := Try.f12.body.getD .skip) rfl Try.results12 Try.ntmps12 Try.call12 ?_
  simp only [Try.f12, Option.getD]
  obtain ⟨h1, h2⟩ := hr
  unfold tokenP
  repeat' (first | (with_reducible first | refine zaa _ _ ?_ | refine zah ?_ | refine zai ?_) | rw [zae] | simp only [pkS, TyB, pkY, Int.reduceEq, bne_self_eq_false, Int.reduceBEq, Int.reduceBNe, implies_true, forall_const, Nat.reduceSub, Nat.reduceEqDiff, Nat.reduceAdd, Nat.reduceMul, Nat.reduceLeDiff, Nat.reduceLT, Nat.reduceBEq, reduceCtorEq] | refine zab ?_ | refine zad (fun hb => ?_) (fun hb => ?_) | (refine And.intro ?_ ?_; focus ((try with_reducible refine zal ?_); first | (with_reducible rfl) | ((with_reducible first | refine zam ?_ | refine zaf ?_ | refine zac ?_); kernel_rfl) | (intros; omega) | (intro q p; rw [q, p]; rfl) | (intro q; rw [q]; rfl) | (intro q; simp only [Bool.and_eq_true, decide_eq_true_eq, beq_iff_eq] at q; omega) | (intros; simp_all; done) | (intros; simp [List.range, List.range.loop]; done) | (intros; simp_all [List.range, List.range.loop]; done))) | refine And.intro (fun hg => ?_) (fun hg => ?_) | (with_reducible refine zac ?_; kernel_rfl) | fail)
  refine zaH (τ := Nat) (fun i => ⟨[dd, ast L, .one (.ptr ⟨2, 0, 1⟩ 0), dd, dd, ai i, dd, dd, dd, dd, dd, dd, dd, dd, dd, dd, dd, dd, dd, dd, dd, dd, dd, dd, dd, dd, dd], [(2, { next := 2, l := [some { e := 1, var := true, fz := false, sz := 0, cells := [di r.code, di r.session, di r.ahead, .lent r.held.length (grantsE r.held)] }, none, none, none, none] })]⟩)
    (fun i => i ≤ r.held.length) (fun i => (((r.held.drop i).find? fun g => g.name.toList == L.toList).map Grant.token).getD 0) (fun i => r.held.length - i) 0
    (Gh.canon [2] [] [] (by simp only [zar, zaz, zas, zat, zau, zav, List.set_cons_zero, List.set_cons_succ, and_true, true_and, Int.natCast_zero, Int.cast_ofNat_Int, D.v.injEq, Value.int.injEq]; try (repeat' (first | rfl | omega | with_reducible apply And.intro))) rfl rfl) (Nat.zero_le _) ?_
  intro i hi0 hF K hK
  rw [List.drop_zero] at hF
  repeat (first | with_reducible refine zaa _ _ ?_ | with_reducible refine And.imp_right (zaa _ _) ?_ | with_reducible refine And.imp_right (And.imp_right (zaa _ _)) ?_ | with_reducible refine And.imp_right (And.imp_right (And.imp_right (zaa _ _))) ?_ | rw [zae] | simp only [pkS, TyB,  implies_true, forall_const, Nat.reduceSub, Nat.reduceEqDiff, Nat.reduceAdd, Nat.reduceMul, Nat.reduceLeDiff, Nat.reduceLT, Nat.reduceBEq, reduceCtorEq])
  refine zad (fun hlt => ?_) (fun hge => ?_)
  · have hi : i < r.held.length := by simpa using hlt
    have hat := zdc hi
    have hw := zaI hi (by omega)
    have hq : (((r.held.drop i).find? fun g => g.name.toList == L.toList).map Grant.token).getD 0 = if (r.held[i].name.toList == L.toList) = true then r.held[i].token else (((r.held.drop (i + 1)).find? fun g => g.name.toList == L.toList).map Grant.token).getD 0 := by
      rw [List.drop_eq_getElem_cons hi, List.find?_cons]
      cases r.held[i].name.toList == L.toList <;> rfl
    rw [hq] at hF
    repeat' (first | (with_reducible first | refine zaa _ _ ?_ | refine zah ?_ | refine zai ?_) | rw [zae] | simp only [pkS, TyB, hat, List.cons_append, List.nil_append, zbv, pkY, Int.reduceEq, bne_self_eq_false, Int.reduceBEq, Int.reduceBNe, implies_true, forall_const, Nat.reduceSub, Nat.reduceEqDiff, Nat.reduceAdd, Nat.reduceMul, Nat.reduceLeDiff, Nat.reduceLT, Nat.reduceBEq, reduceCtorEq] | refine zab ?_ | refine zad (fun hb => ?_) (fun hb => ?_) | (refine And.intro ?_ ?_; focus ((try with_reducible refine zal ?_); first | (with_reducible rfl) | ((with_reducible first | refine zam ?_ | refine zaf ?_ | refine zac ?_); kernel_rfl) | (intros; omega) | (intro q p; rw [q, p]; rfl) | (intro q; rw [q]; rfl) | (intro q; simp only [Bool.and_eq_true, decide_eq_true_eq, beq_iff_eq] at q; omega) | (intros; simp_all; done) | (intros; simp [List.range, List.range.loop]; done) | (intros; simp_all [List.range, List.range.loop]; done))) | refine And.intro (fun hg => ?_) (fun hg => ?_) | (with_reducible refine zac ?_; kernel_rfl) | fail)
    · rw [if_pos hb] at hF
      rw [← hF]
    · rw [if_neg (by rw [hb]; simp)] at hq
      exact hK _ (i + 1) (Gh.canon [2] [] [] (by simp only [hw, zar, zaz, zas, zat, zau, zav, List.set_cons_zero, List.set_cons_succ, and_true, true_and, Int.natCast_zero, Int.cast_ofNat_Int, D.v.injEq, Value.int.injEq]; try (repeat' (first | rfl | omega | with_reducible apply And.intro))) rfl rfl) hi hq.symm (by omega)
  · have hi : i = r.held.length := by
      have : ¬ (i : Int) < r.held.length := by simpa using hge
      omega
    rw [hi, List.drop_length] at hF
    have hF : (0 : Int) = _ := hF
    rw [← hF]
    repeat' (first | (with_reducible first | refine zaa _ _ ?_ | refine zah ?_ | refine zai ?_) | rw [zae] | simp only [pkS, TyB, pkY, Int.reduceEq, bne_self_eq_false, Int.reduceBEq, Int.reduceBNe, implies_true, forall_const, Nat.reduceSub, Nat.reduceEqDiff, Nat.reduceAdd, Nat.reduceMul, Nat.reduceLeDiff, Nat.reduceLT, Nat.reduceBEq, reduceCtorEq] | refine zab ?_ | refine zad (fun hb => ?_) (fun hb => ?_) | (refine And.intro ?_ ?_; focus ((try with_reducible refine zal ?_); first | (with_reducible rfl) | ((with_reducible first | refine zam ?_ | refine zaf ?_ | refine zac ?_); kernel_rfl) | (intros; omega) | (intro q p; rw [q, p]; rfl) | (intro q; rw [q]; rfl) | (intro q; simp only [Bool.and_eq_true, decide_eq_true_eq, beq_iff_eq] at q; omega) | (intros; simp_all; done) | (intros; simp [List.range, List.range.loop]; done) | (intros; simp_all [List.range, List.range.loop]; done))) | refine And.intro (fun hg => ?_) (fun hg => ?_) | (with_reducible refine zac ?_; kernel_rfl) | fail)
theorem named_sz (n : Int) : (namedP n).size ≤ 12 := by
  unfold namedP
  rcases six n with h | h | h | h | h | h <;> rw [h] <;> decide
theorem named_ok6 (n : Int) : nameP (namedP n) = true := by
  unfold namedP
  rcases six n with h | h | h | h | h | h <;> rw [h] <;> decide
theorem rq_ok {c q k n : Int} {nm : ByteArray} (h1 : isClient c = true) (h2 : 1 ≤ q ∧ q ≤ 3) (h3 : 1 ≤ k ∧ k ≤ 6) (h4 : 0 ≤ n ∧ n ≤ 5) (h5 : nm.size ≤ 12) : (⟨c, q, k, n, nm⟩ : Req).ok := by
  have h1 := zaT.1 h1
  exact ⟨⟨by simp only; omega, by simp only; omega⟩, ⟨by simp only; omega, by simp only; omega⟩, ⟨by simp only; omega, by simp only; omega⟩, ⟨by simp only; omega, by simp only; omega⟩, by simp only; omega⟩
theorem fair0 (L : ByteArray) (hL : nameP L = true) : FairS st0 L [] 0 :=
  ⟨zcD, hL, List.nodup_nil, (fun c hc => by cases hc), by decide, rfl, rfl, rfl, (fun k hk => by cases hk), fun c _ => rfl, Nat.le_refl _, (fun c hc => by cases hc), fun c _ => rfl⟩
set_option maxHeartbeats 8000000 in
theorem zhw (a : List Int) (hla : a.length < 2 ^ 60) (ha : ∀ x ∈ a, byteI x) (b : List Int) (hlb : b.length < 2 ^ 60) (hbb : ∀ x ∈ b, byteI x) (nm : Int) (hnm : byteI nm) :
    CallOK Try.prog 4 [.f (al a.length (bytesE a)), .f (al b.length (bytesE b)), .f (au nm)] (fun r o => r = [rb true] ∧ o = []) := by
  refine zaq zaG mixed (T := Ty) (n := 215) Try.func4 (c := Try.f4.body.getD .skip) rfl Try.results4 Try.ntmps4 Try.call4 ?_
  simp only [Try.f4, Option.getD]
  have haw := awake_ok
  have hnd := named4_ok nm hnm
  have hnL := named_ok6 nm
  have hns := named_sz nm
  generalize namedP nm = L at *
  have hH : High = 2305843009213693952 := rfl
  repeat' (first | (with_reducible first | refine zaa _ _ ?_ | refine zah ?_ | refine zai ?_) | rw [zae] | simp only [pkS, TyB, pkY, Int.reduceEq, bne_self_eq_false, Int.reduceBEq, Int.reduceBNe, implies_true, forall_const, Nat.reduceSub, Nat.reduceEqDiff, Nat.reduceAdd, Nat.reduceMul, Nat.reduceLeDiff, Nat.reduceLT, Nat.reduceBEq, reduceCtorEq] | ((try refine zak ?_); apply zan; (solve | exact (hnd) | (refine CallOK.le (hnd) ?_; simp [argsLe, aLe, csLe, cLe]))) | (apply zaj; (focus (intro _; (solve | exact (hnd) | (refine CallOK.le (hnd) ?_; simp [argsLe, aLe, csLe, cLe])))); (focus rfl)) | refine zab ?_ | refine zad (fun hb => ?_) (fun hb => ?_) | (refine And.intro ?_ ?_; focus ((try with_reducible refine zal ?_); first | (with_reducible rfl) | ((with_reducible first | refine zam ?_ | refine zaf ?_ | refine zac ?_); kernel_rfl) | (intros; omega) | (intro q p; rw [q, p]; rfl) | (intro q; rw [q]; rfl) | (intro q; simp only [Bool.and_eq_true, decide_eq_true_eq, beq_iff_eq] at q; omega) | (intros; simp_all; done) | (intros; simp [List.range, List.range.loop]; done) | (intros; simp_all [List.range, List.range.loop]; done))) | refine And.intro (fun hg => ?_) (fun hg => ?_) | (with_reducible refine zac ?_; kernel_rfl) | fail)
  refine zfY (Gh.sealF 7 3 (.d (.v (.slice none 0 0))) ?_) ?_
  · simp only [pkS, TyB, sealFOK, pkY, implies_true, forall_const, Nat.reduceSub, Nat.reduceEqDiff, Nat.reduceAdd, Nat.reduceMul, Nat.reduceLeDiff, Nat.reduceLT, Nat.reduceBEq, reduceCtorEq]
  simp only [pkS, TyB, sealFR, pkY, implies_true, forall_const, Nat.reduceSub, Nat.reduceEqDiff, Nat.reduceAdd, Nat.reduceMul, Nat.reduceLeDiff, Nat.reduceLT, Nat.reduceBEq, reduceCtorEq]
  refine zfY (Gh.sealF 7 4 (.d (.v (.slice none 0 0))) ?_) ?_
  · simp only [pkS, TyB, sealFOK, pkY, implies_true, forall_const, Nat.reduceSub, Nat.reduceEqDiff, Nat.reduceAdd, Nat.reduceMul, Nat.reduceLeDiff, Nat.reduceLT, Nat.reduceBEq, reduceCtorEq]
  simp only [pkS, TyB, sealFR, pkY, implies_true, forall_const, Nat.reduceSub, Nat.reduceEqDiff, Nat.reduceAdd, Nat.reduceMul, Nat.reduceLeDiff, Nat.reduceLT, Nat.reduceBEq, reduceCtorEq]
  refine zfY (Gh.sealF 7 5 (.d (.v (.slice none 0 0))) ?_) ?_
  · simp only [pkS, TyB, sealFOK, pkY, implies_true, forall_const, Nat.reduceSub, Nat.reduceEqDiff, Nat.reduceAdd, Nat.reduceMul, Nat.reduceLeDiff, Nat.reduceLT, Nat.reduceBEq, reduceCtorEq]
  simp only [pkS, TyB, sealFR, pkY, implies_true, forall_const, Nat.reduceSub, Nat.reduceEqDiff, Nat.reduceAdd, Nat.reduceMul, Nat.reduceLeDiff, Nat.reduceLT, Nat.reduceBEq, reduceCtorEq]
  refine zaH (τ := Nat × List Int × St) (fun q => ⟨[al a.length (bytesE a), al b.length (bytesE b), dd, dd, dd, dd, dd, .one (.ptr ⟨7, 0, 1⟩ 0), ast L, .one (.own ⟨9, 1, 1⟩ 0 q.2.1.length), ai q.1, dd, dd, dd, dd, dd, dd, dd, dd, dd, dd, dd, dd, dd, dd, dd, dd, dd, dd, dd, dd, dd, dd, dd, dd, dd, dd, dd, dd, dd, dd, dd, dd, dd, dd, dd, dd, dd, dd, dd, dd, dd, dd, dd, dd, dd, dd, dd, dd, dd, dd, dd, dd, dd, dd, dd, dd, dd, dd, dd, dd, dd, dd, dd, dd, dd, dd, dd, dd, dd, dd, dd, dd, dd, dd, dd, dd, dd, dd, dd, dd, dd, dd, dd, dd, dd, dd, dd, dd, dd, dd, dd, dd, dd, dd, dd, dd, dd, dd, dd, dd, dd, dd, dd, dd, dd, dd, dd, dd, dd, dd, dd, dd, dd, dd, dd, dd, dd, dd, dd, dd, dd, dd, dd, dd, dd, dd, dd, dd, dd, dd, dd, dd, dd, dd, dd, dd, dd, dd, dd, dd, dd, dd, dd, dd, dd, dd, dd, dd, dd, dd, dd, dd, dd, dd, dd, dd, dd, dd, dd, dd, dd, dd, dd, dd, dd, dd, dd, dd, dd, dd, dd, dd, dd, dd, dd, dd, dd, dd, dd, dd, dd, dd, dd, dd, dd, dd, dd, dd, dd, dd, dd, dd, dd, dd, dd, dd, dd, dd, dd, dd, dd, dd, dd, dd], [(7, { next := 2, l := [some { e := 1, var := true, fz := false, sz := 0, cells := [di q.2.2.time, di q.2.2.num, di q.2.2.token, .d (.sl q.2.2.sess.length (sessE q.2.2.sess)), .d (.sl q.2.2.locks.length (locksE q.2.2.locks)), .d (.sl q.2.2.memos.length (memosE q.2.2.memos))] }, none, none, none, none, none, none] }), (9, { next := 2, l := [none, some { e := 1, var := false, fz := false, sz := 1, cells := (intsE q.2.1).map C.d }] }), (12, ⟨2, []⟩), (13, ⟨2, []⟩), (15, ⟨2, []⟩), (16, ⟨2, []⟩), (54, ⟨2, []⟩), (66, ⟨2, []⟩), (108, ⟨2, []⟩), (109, ⟨2, []⟩)]⟩)
    (fun q => q.1 ≤ a.length ∧ FairS q.2.2 L q.2.1 0) (fun _ => ()) (fun q => a.length - q.1) (0, [], st0)
    ((Gh.nil (i := 9) (s := 9) (sz := 1) rfl).trans (Gh.canon [7, 9] [12, 13, 15, 16, 54, 66, 108, 109] [] (by simp only [zar, zaz, zas, zat, zau, zav, List.set_cons_zero, List.set_cons_succ, and_true, true_and, Int.natCast_zero, Int.cast_ofNat_Int, D.v.injEq, Value.int.injEq]; try (repeat' (first | rfl | omega | with_reducible apply And.intro))) rfl rfl)) ⟨Nat.zero_le _, fair0 L hnL⟩ ?_
  intro ⟨i, came, s⟩ ⟨j1, j2⟩ hF K hK
  simp only at j1 j2 hF hK ⊢
  have h4 := j2.le
  have hnu := j2.num
  have hto := j2.tok
  have hT : s.token + 4 ≤ High := by split at hto <;> omega
  have hN : s.num + 1 ≤ High := by omega
  repeat (first | with_reducible refine zaa _ _ ?_ | with_reducible refine And.imp_right (zaa _ _) ?_ | with_reducible refine And.imp_right (And.imp_right (zaa _ _)) ?_ | with_reducible refine And.imp_right (And.imp_right (And.imp_right (zaa _ _))) ?_ | rw [zae] | simp only [pkS, TyB,  implies_true, forall_const, Nat.reduceSub, Nat.reduceEqDiff, Nat.reduceAdd, Nat.reduceMul, Nat.reduceLeDiff, Nat.reduceLT, Nat.reduceBEq, reduceCtorEq])
  refine zad (fun hlt => ?_) (fun hge => ?_)
  · have hlt2 : i < a.length ∧ came.length < 4 := by simp at hlt; omega
    obtain ⟨hi, hc4⟩ := hlt2
    have hat := zg1 hi
    have hw := zaI hi (by omega)
    have hab := ha _ (List.getElem_mem hi)
    have hwb := zgH hab
    have htm := zh5 hab.1 8
    have hin := in_ok came (by omega) (a[i] % 8)
    have hcc : 0 ≤ a[i] % 8 ∧ a[i] % 8 < 8 := by omega
    have hcl : isClient (a[i] % 8) = true := zaT.2 hcc
    generalize a[i] % 8 = c at *
    cases hh : hasI came c
    · rw [hh] at hin
      have hn := zba.1 hh
      obtain ⟨s1, e1, f1, f2, f3, f4, f5, f6, f7⟩ := fair_open j2 hn hcl hc4
      obtain ⟨s2, r2, e2, g1, g2, g3, g4⟩ := fair_take j2 hn hcl hc4 f1 f2 f3 f4 f5 f6 f7
      have hap1 := zdw s (zaP j2.rt) j2.rt ⟨c, 1, 1, 0, .empty⟩ (rq_ok hcl (by omega) (by omega) (by omega) (by decide)) (fun hm => zbA j2.rt hm hN hT)
      have hap2 := zdw s1 (zaP f1) f1 ⟨c, 2, 3, (came.length : Int) + 1, L⟩ (rq_ok hcl (by omega) (by omega) (by omega) hns) (fun hm => zbA f1 hm (by omega) (by omega))
      rw [e1] at hap1
      rw [e2] at hap2
      have htk := token_ok r2 g4 L
      cases c0 : ((came.length : Int) == 0)
      · have hp : 0 < came.length := by have := beq_eq_false_iff_ne.1 c0; omega
        obtain ⟨ga, gb⟩ := g2 hp
        have c1 : decide ((came.length : Int) > 0) = true := by simpa using hp
        have c2 : (r2.code != 10) = false := by rw [ga]; rfl
        have c3 : IntKind.i64.wrap ((came.length : Int) - 1) = (came.length : Int) - 1 := wrap64 (by omega) (by omega)
        have c4 : (r2.ahead != (came.length : Int) - 1) = false := by rw [gb]; simp
        repeat' (first | (with_reducible first | refine zaa _ _ ?_ | refine zah ?_ | refine zai ?_) | rw [zae] | simp only [pkS, TyB, hat, hwb, htm, c0, c1, c2, c3, c4, List.cons_append, List.nil_append, zcg, pkY, Int.reduceEq, bne_self_eq_false, Int.reduceBEq, Int.reduceBNe, implies_true, forall_const, Nat.reduceSub, Nat.reduceEqDiff, Nat.reduceAdd, Nat.reduceMul, Nat.reduceLeDiff, Nat.reduceLT, Nat.reduceBEq, reduceCtorEq] | ((try refine zak ?_); apply zan; (solve | exact (hin) | exact (hap1) | exact (hap2) | exact (htk) | (refine CallOK.le (hin) ?_; simp [argsLe, aLe, csLe, cLe]) | (refine CallOK.le (hap1) ?_; simp [argsLe, aLe, csLe, cLe]) | (refine CallOK.le (hap2) ?_; simp [argsLe, aLe, csLe, cLe]) | (refine CallOK.le (htk) ?_; simp [argsLe, aLe, csLe, cLe]))) | (apply zaj; (focus (intro _; (solve | exact (hin) | exact (hap1) | exact (hap2) | exact (htk) | (refine CallOK.le (hin) ?_; simp [argsLe, aLe, csLe, cLe]) | (refine CallOK.le (hap1) ?_; simp [argsLe, aLe, csLe, cLe]) | (refine CallOK.le (hap2) ?_; simp [argsLe, aLe, csLe, cLe]) | (refine CallOK.le (htk) ?_; simp [argsLe, aLe, csLe, cLe])))); (focus rfl)) | refine zab ?_ | refine zad (fun hb => ?_) (fun hb => ?_) | (refine And.intro ?_ ?_; focus ((try with_reducible refine zal ?_); first | (with_reducible rfl) | ((with_reducible first | refine zam ?_ | refine zaf ?_ | refine zac ?_); kernel_rfl) | (intros; omega) | (intro q p; rw [q, p]; rfl) | (intro q; rw [q]; rfl) | (intro q; simp only [Bool.and_eq_true, decide_eq_true_eq, beq_iff_eq] at q; omega) | (intros; simp_all; done) | (intros; simp [List.range, List.range.loop]; done) | (intros; simp_all [List.range, List.range.loop]; done))) | refine And.intro (fun hg => ?_) (fun hg => ?_) | (with_reducible refine zac ?_; kernel_rfl) | fail)
        exact hK _ (i + 1, came ++ [c], s2) (Gh.canon [7, 9] [] [] (by simp only [hw, List.length_append, List.length_singleton, zar, zaz, zas, zat, zau, zav, List.set_cons_zero, List.set_cons_succ, and_true, true_and, Int.natCast_zero, Int.cast_ofNat_Int, D.v.injEq, Value.int.injEq]; try (repeat' (first | rfl | omega | with_reducible apply And.intro))) rfl (by simp only [List.length_append, List.length_singleton]; rw [zcF]; rfl)) ⟨hi, g3⟩ trivial (by simp only; omega)
      · have hp : came.length = 0 := by have := eq_of_beq c0; omega
        obtain ⟨ga, gb⟩ := g1 hp
        have c1 : decide ((came.length : Int) > 0) = false := by rw [hp]; rfl
        have c2 : (r2.code != 0) = false := by rw [ga]; rfl
        have c4 : (tokenP r2 L != 1) = false := by rw [gb]; rfl
        repeat' (first | (with_reducible first | refine zaa _ _ ?_ | refine zah ?_ | refine zai ?_) | rw [zae] | simp only [pkS, TyB, hat, hwb, htm, c0, c1, c2, c4, List.cons_append, List.nil_append, zcg, pkY, Int.reduceEq, bne_self_eq_false, Int.reduceBEq, Int.reduceBNe, implies_true, forall_const, Nat.reduceSub, Nat.reduceEqDiff, Nat.reduceAdd, Nat.reduceMul, Nat.reduceLeDiff, Nat.reduceLT, Nat.reduceBEq, reduceCtorEq] | ((try refine zak ?_); apply zan; (solve | exact (hin) | exact (hap1) | exact (hap2) | exact (htk) | (refine CallOK.le (hin) ?_; simp [argsLe, aLe, csLe, cLe]) | (refine CallOK.le (hap1) ?_; simp [argsLe, aLe, csLe, cLe]) | (refine CallOK.le (hap2) ?_; simp [argsLe, aLe, csLe, cLe]) | (refine CallOK.le (htk) ?_; simp [argsLe, aLe, csLe, cLe]))) | (apply zaj; (focus (intro _; (solve | exact (hin) | exact (hap1) | exact (hap2) | exact (htk) | (refine CallOK.le (hin) ?_; simp [argsLe, aLe, csLe, cLe]) | (refine CallOK.le (hap1) ?_; simp [argsLe, aLe, csLe, cLe]) | (refine CallOK.le (hap2) ?_; simp [argsLe, aLe, csLe, cLe]) | (refine CallOK.le (htk) ?_; simp [argsLe, aLe, csLe, cLe])))); (focus rfl)) | refine zab ?_ | refine zad (fun hb => ?_) (fun hb => ?_) | (refine And.intro ?_ ?_; focus ((try with_reducible refine zal ?_); first | (with_reducible rfl) | ((with_reducible first | refine zam ?_ | refine zaf ?_ | refine zac ?_); kernel_rfl) | (intros; omega) | (intro q p; rw [q, p]; rfl) | (intro q; rw [q]; rfl) | (intro q; simp only [Bool.and_eq_true, decide_eq_true_eq, beq_iff_eq] at q; omega) | (intros; simp_all; done) | (intros; simp [List.range, List.range.loop]; done) | (intros; simp_all [List.range, List.range.loop]; done))) | refine And.intro (fun hg => ?_) (fun hg => ?_) | (with_reducible refine zac ?_; kernel_rfl) | fail)
        exact hK _ (i + 1, came ++ [c], s2) (Gh.canon [7, 9] [] [] (by simp only [hw, List.length_append, List.length_singleton, zar, zaz, zas, zat, zau, zav, List.set_cons_zero, List.set_cons_succ, and_true, true_and, Int.natCast_zero, Int.cast_ofNat_Int, D.v.injEq, Value.int.injEq]; try (repeat' (first | rfl | omega | with_reducible apply And.intro))) rfl (by simp only [List.length_append, List.length_singleton]; rw [zcF]; rfl)) ⟨hi, g3⟩ trivial (by simp only; omega)
    · rw [hh] at hin
      repeat' (first | (with_reducible first | refine zaa _ _ ?_ | refine zah ?_ | refine zai ?_) | rw [zae] | simp only [pkS, TyB, hat, hwb, htm, List.cons_append, List.nil_append, zcg, pkY, Int.reduceEq, bne_self_eq_false, Int.reduceBEq, Int.reduceBNe, implies_true, forall_const, Nat.reduceSub, Nat.reduceEqDiff, Nat.reduceAdd, Nat.reduceMul, Nat.reduceLeDiff, Nat.reduceLT, Nat.reduceBEq, reduceCtorEq] | ((try refine zak ?_); apply zan; (solve | exact (hin) | (refine CallOK.le (hin) ?_; simp [argsLe, aLe, csLe, cLe]))) | (apply zaj; (focus (intro _; (solve | exact (hin) | (refine CallOK.le (hin) ?_; simp [argsLe, aLe, csLe, cLe])))); (focus rfl)) | refine zab ?_ | refine zad (fun hb => ?_) (fun hb => ?_) | (refine And.intro ?_ ?_; focus ((try with_reducible refine zal ?_); first | (with_reducible rfl) | ((with_reducible first | refine zam ?_ | refine zaf ?_ | refine zac ?_); kernel_rfl) | (intros; omega) | (intro q p; rw [q, p]; rfl) | (intro q; rw [q]; rfl) | (intro q; simp only [Bool.and_eq_true, decide_eq_true_eq, beq_iff_eq] at q; omega) | (intros; simp_all; done) | (intros; simp [List.range, List.range.loop]; done) | (intros; simp_all [List.range, List.range.loop]; done))) | refine And.intro (fun hg => ?_) (fun hg => ?_) | (with_reducible refine zac ?_; kernel_rfl) | fail)
      exact hK _ (i + 1, came, s) (Gh.canon [7, 9] [] [] (by simp only [hw, zar, zaz, zas, zat, zau, zav, List.set_cons_zero, List.set_cons_succ, and_true, true_and, Int.natCast_zero, Int.cast_ofNat_Int, D.v.injEq, Value.int.injEq]; try (repeat' (first | rfl | omega | with_reducible apply And.intro))) rfl rfl) ⟨hi, j2⟩ trivial (by simp only; omega)
  · repeat' (first | (with_reducible first | refine zaa _ _ ?_ | refine zah ?_ | refine zai ?_) | rw [zae] | simp only [pkS, TyB, pkY, Int.reduceEq, bne_self_eq_false, Int.reduceBEq, Int.reduceBNe, implies_true, forall_const, Nat.reduceSub, Nat.reduceEqDiff, Nat.reduceAdd, Nat.reduceMul, Nat.reduceLeDiff, Nat.reduceLT, Nat.reduceBEq, reduceCtorEq] | refine zab ?_ | refine zad (fun hb => ?_) (fun hb => ?_) | (refine And.intro ?_ ?_; focus ((try with_reducible refine zal ?_); first | (with_reducible rfl) | ((with_reducible first | refine zam ?_ | refine zaf ?_ | refine zac ?_); kernel_rfl) | (intros; omega) | (intro q p; rw [q, p]; rfl) | (intro q; rw [q]; rfl) | (intro q; simp only [Bool.and_eq_true, decide_eq_true_eq, beq_iff_eq] at q; omega) | (intros; simp_all; done) | (intros; simp [List.range, List.range.loop]; done) | (intros; simp_all [List.range, List.range.loop]; done))) | refine And.intro (fun hg => ?_) (fun hg => ?_) | (with_reducible refine zac ?_; kernel_rfl) | fail)
    refine zaH (τ := Nat × St) (fun q => ⟨[dd, al b.length (bytesE b), dd, dd, dd, dd, dd, .one (.ptr ⟨7, 0, 1⟩ 0), ast L, .one (.own ⟨9, 1, 1⟩ 0 came.length), dd, dd, dd, dd, dd, dd, dd, dd, ai q.1, ai q.1, dd, dd, dd, dd, dd, dd, dd, dd, dd, dd, dd, dd, dd, dd, dd, dd, dd, dd, dd, dd, dd, dd, dd, dd, dd, dd, dd, dd, dd, dd, dd, dd, dd, dd, dd, dd, dd, dd, dd, dd, dd, dd, dd, dd, dd, dd, dd, dd, dd, dd, dd, dd, dd, dd, dd, dd, dd, dd, dd, dd, dd, dd, dd, dd, dd, dd, dd, dd, dd, dd, dd, dd, dd, dd, dd, dd, dd, dd, dd, dd, dd, dd, dd, dd, dd, dd, dd, dd, dd, dd, dd, dd, dd, dd, dd, dd, dd, dd, dd, dd, dd, dd, dd, dd, dd, dd, dd, dd, dd, dd, dd, dd, dd, dd, dd, dd, dd, dd, dd, dd, dd, dd, dd, dd, dd, dd, dd, dd, dd, dd, dd, dd, dd, dd, dd, dd, dd, dd, dd, dd, dd, dd, dd, dd, dd, dd, dd, dd, dd, dd, dd, dd, dd, dd, dd, dd, dd, dd, dd, dd, dd, dd, dd, dd, dd, dd, dd, dd, dd, dd, dd, dd, dd, dd, dd, dd, dd, dd, dd, dd, dd, dd, dd, dd, dd, dd, dd, dd, dd, dd, dd, dd, dd, dd, dd], [(7, { next := 2, l := [some { e := 1, var := true, fz := false, sz := 0, cells := [di q.2.time, di q.2.num, di q.2.token, .d (.sl q.2.sess.length (sessE q.2.sess)), .d (.sl q.2.locks.length (locksE q.2.locks)), .d (.sl q.2.memos.length (memosE q.2.memos))] }, none, none, none, none, none, none] }), (9, { next := 2, l := [none, some { e := 1, var := false, fz := false, sz := 1, cells := (intsE came).map C.d }] }), (12, ⟨2, []⟩), (13, ⟨2, []⟩), (15, ⟨2, []⟩), (16, ⟨2, []⟩), (54, ⟨2, []⟩), (66, ⟨2, []⟩), (108, ⟨2, []⟩), (109, ⟨2, []⟩), (21, ⟨2, []⟩), (23, ⟨2, []⟩), (24, ⟨2, []⟩), (25, ⟨2, []⟩), (189, ⟨2, []⟩)]⟩)
      (fun q => q.1 ≤ came.length ∧ FairS q.2 L came q.1) (fun _ => ()) (fun q => came.length - q.1) (0, s)
      (Gh.canon [7, 9] [21, 23, 24, 25, 189] [] (by simp only [zar, zaz, zas, zat, zau, zav, List.set_cons_zero, List.set_cons_succ, and_true, true_and, Int.natCast_zero, Int.cast_ofNat_Int, D.v.injEq, Value.int.injEq]; try (repeat' (first | rfl | omega | with_reducible apply And.intro))) rfl rfl) ⟨Nat.zero_le _, j2⟩ ?_
    clear hK j2 hnu hto hT hN s
    intro ⟨j, s⟩ ⟨j1, j2⟩ hF K hK
    simp only at j1 j2 hF hK ⊢
    have hnu := j2.num
    have hto := j2.tok
    have hT : s.token + 4 ≤ High := by split at hto <;> omega
    have hN : s.num + 1 ≤ High := by omega
    have hfl := rfindL_ok s.locks (by have := (zaP j2.rt).locks; omega) L
    repeat (first | with_reducible refine zaa _ _ ?_ | with_reducible refine And.imp_right (zaa _ _) ?_ | with_reducible refine And.imp_right (And.imp_right (zaa _ _)) ?_ | with_reducible refine And.imp_right (And.imp_right (And.imp_right (zaa _ _))) ?_ | rw [zae] | simp only [pkS, TyB,  implies_true, forall_const, Nat.reduceSub, Nat.reduceEqDiff, Nat.reduceAdd, Nat.reduceMul, Nat.reduceLeDiff, Nat.reduceLT, Nat.reduceBEq, reduceCtorEq])
    refine zad (fun hlt => ?_) (fun hge => ?_)
    · have hj : j < came.length := by simpa using hlt
      have hw := zaI hj (by omega)
      have hne : came ≠ [] := fun e => by rw [e] at hj; cases hj
      rw [if_neg hne] at hto
      have hlk : s.locks = [⟨L, came[j], s.token, came.drop (j + 1)⟩] := by rw [j2.lk]; exact zg3 hj
      have hct := zbX hj
      obtain ⟨k, hk⟩ : ∃ k : Int, k = 0 := ⟨0, rfl⟩
      have hix : idxF (isL L) s.locks 0 = k := by rw [hlk, hk, idxF, if_pos (zic ..)]
      rw [hix] at hfl
      have hlat : (locksE s.locks).drop (k.toNat * 4) = [sD L, iD came[j], iD s.token, .sl (came.drop (j + 1)).length (intsE (came.drop (j + 1)))] := by rw [hlk, hk]; rfl
      have hl1 : s.locks.length = 1 := by rw [hlk]; rfl
      obtain ⟨x, hx, hxn⟩ := zdU (j2.se j hj (Nat.le_refl _))
      have hfs := rfind_ok s.sess (by have := (zaP j2.rt).sess; omega) came[j]
      rw [hx] at hfs
      simp only [Option.getD_some, Option.isSome_some] at hfs
      have hcl := zaT.1 (j2.cl _ (List.getElem_mem hj))
      have htn : s.token = ((j + 1 : Nat) : Int) := by omega
      have c1 : decide (k < 0) = false := by rw [hk]; rfl
      have c2 : (came[j] != came[j]) = false := by simp
      have c3 : decide (s.token ≤ (j : Int)) = false := by simp; omega
      obtain ⟨s5, a5, e5, p1, p2, p3, p4⟩ := zg4 j2 hj (r := ⟨came[j], 3, 5, (j : Int) + 1, L⟩) (.inl rfl)
      obtain ⟨s6, a6, e6, q1, q2, q3, q4⟩ := zg4 j2 hj (r := ⟨came[j], 3, 6, (j : Int) + 1, .empty⟩) (.inr rfl)
      have hap5 := zdw s (zaP j2.rt) j2.rt ⟨came[j], 3, 5, (j : Int) + 1, L⟩ (rq_ok (j2.cl _ (List.getElem_mem hj)) (by omega) (by omega) (by omega) hns) (fun hm => zbA j2.rt hm hN hT)
      have hap6 := zdw s (zaP j2.rt) j2.rt ⟨came[j], 3, 6, (j : Int) + 1, .empty⟩ (rq_ok (j2.cl _ (List.getElem_mem hj)) (by omega) (by omega) (by omega) (by decide)) (fun hm => zbA j2.rt hm hN hT)
      rw [e5] at hap5
      rw [e6] at hap6
      have d1 : (a5.code != 0) = false := by rw [p1]; rfl
      have d2 : ((a5.held.length : Int) != 0) = false := by rw [p2]; rfl
      have d3 : (a6.code != 0) = false := by rw [q1]; rfl
      have d4 : ((a6.held.length : Int) != 0) = false := by rw [q2]; rfl
      cases hcb : decide ((j : Int) < b.length)
      · have hbt : (bytesE b).drop j = [] := List.drop_eq_nil_of_le (by rw [zcg]; have : ¬ (j : Int) < b.length := by simpa using hcb
                                                                        omega)
        repeat' (first | (with_reducible first | refine zaa _ _ ?_ | refine zah ?_ | refine zai ?_) | rw [zae] | simp only [pkS, TyB, ← List.map_drop, hct, List.map_cons, hlat, hbt, hxn, c1, c2, c3, hcb, d1, d2, List.cons_append, List.nil_append, zaE, pkY, Int.reduceEq, bne_self_eq_false, Int.reduceBEq, Int.reduceBNe, implies_true, forall_const, Nat.reduceSub, Nat.reduceEqDiff, Nat.reduceAdd, Nat.reduceMul, Nat.reduceLeDiff, Nat.reduceLT, Nat.reduceBEq, reduceCtorEq] | ((try refine zak ?_); apply zan; (solve | exact (hfl) | exact (hfs) | exact (hap5) | (refine CallOK.le (hfl) ?_; simp [argsLe, aLe, csLe, cLe]) | (refine CallOK.le (hfs) ?_; simp [argsLe, aLe, csLe, cLe]) | (refine CallOK.le (hap5) ?_; simp [argsLe, aLe, csLe, cLe]))) | (apply zaj; (focus (intro _; (solve | exact (hfl) | exact (hfs) | exact (hap5) | (refine CallOK.le (hfl) ?_; simp [argsLe, aLe, csLe, cLe]) | (refine CallOK.le (hfs) ?_; simp [argsLe, aLe, csLe, cLe]) | (refine CallOK.le (hap5) ?_; simp [argsLe, aLe, csLe, cLe])))); (focus rfl)) | refine zab ?_ | refine zad (fun hb => ?_) (fun hb => ?_) | (refine And.intro ?_ ?_; focus ((try with_reducible refine zal ?_); first | (with_reducible rfl) | ((with_reducible first | refine zam ?_ | refine zaf ?_ | refine zac ?_); kernel_rfl) | (intros; omega) | (intro q p; rw [q, p]; rfl) | (intro q; rw [q]; rfl) | (intro q; simp only [Bool.and_eq_true, decide_eq_true_eq, beq_iff_eq] at q; omega) | (intros; simp_all; done) | (intros; simp [List.range, List.range.loop]; done) | (intros; simp_all [List.range, List.range.loop]; done))) | refine And.intro (fun hg => ?_) (fun hg => ?_) | (with_reducible refine zac ?_; kernel_rfl) | fail)
        exact hK _ (j + 1, s5) (Gh.canon [7, 9] [] [] (by simp only [hw, htn, zar, zaz, zas, zat, zau, zav, List.set_cons_zero, List.set_cons_succ, and_true, true_and, Int.natCast_zero, Int.cast_ofNat_Int, D.v.injEq, Value.int.injEq]; try (repeat' (first | rfl | omega | with_reducible apply And.intro))) rfl rfl) ⟨hj, p3⟩ trivial (by simp only; omega)
      · have hjb : j < b.length := by simpa using hcb
        have hbt := zg1 hjb
        repeat' (first | (with_reducible first | refine zaa _ _ ?_ | refine zah ?_ | refine zai ?_) | rw [zae] | simp only [pkS, TyB, ← List.map_drop, hct, List.map_cons, hlat, hbt, hxn, c1, c2, c3, hcb, d1, d2, d3, d4, List.cons_append, List.nil_append, zaE, zcg, pkY, Int.reduceEq, bne_self_eq_false, Int.reduceBEq, Int.reduceBNe, implies_true, forall_const, Nat.reduceSub, Nat.reduceEqDiff, Nat.reduceAdd, Nat.reduceMul, Nat.reduceLeDiff, Nat.reduceLT, Nat.reduceBEq, reduceCtorEq] | ((try refine zak ?_); apply zan; (solve | exact (hfl) | exact (hfs) | exact (hap5) | exact (hap6) | (refine CallOK.le (hfl) ?_; simp [argsLe, aLe, csLe, cLe]) | (refine CallOK.le (hfs) ?_; simp [argsLe, aLe, csLe, cLe]) | (refine CallOK.le (hap5) ?_; simp [argsLe, aLe, csLe, cLe]) | (refine CallOK.le (hap6) ?_; simp [argsLe, aLe, csLe, cLe]))) | (apply zaj; (focus (intro _; (solve | exact (hfl) | exact (hfs) | exact (hap5) | exact (hap6) | (refine CallOK.le (hfl) ?_; simp [argsLe, aLe, csLe, cLe]) | (refine CallOK.le (hfs) ?_; simp [argsLe, aLe, csLe, cLe]) | (refine CallOK.le (hap5) ?_; simp [argsLe, aLe, csLe, cLe]) | (refine CallOK.le (hap6) ?_; simp [argsLe, aLe, csLe, cLe])))); (focus rfl)) | refine zab ?_ | refine zad (fun hb => ?_) (fun hb => ?_) | (refine And.intro ?_ ?_; focus ((try with_reducible refine zal ?_); first | (with_reducible rfl) | ((with_reducible first | refine zam ?_ | refine zaf ?_ | refine zac ?_); kernel_rfl) | (intros; omega) | (intro q p; rw [q, p]; rfl) | (intro q; rw [q]; rfl) | (intro q; simp only [Bool.and_eq_true, decide_eq_true_eq, beq_iff_eq] at q; omega) | (intros; simp_all; done) | (intros; simp [List.range, List.range.loop]; done) | (intros; simp_all [List.range, List.range.loop]; done))) | refine And.intro (fun hg => ?_) (fun hg => ?_) | (with_reducible refine zac ?_; kernel_rfl) | fail)
        · exact hK _ (j + 1, s6) (Gh.canon [7, 9] [] [] (by simp only [hw, htn, zar, zaz, zas, zat, zau, zav, List.set_cons_zero, List.set_cons_succ, and_true, true_and, Int.natCast_zero, Int.cast_ofNat_Int, D.v.injEq, Value.int.injEq]; try (repeat' (first | rfl | omega | with_reducible apply And.intro))) rfl rfl) ⟨hj, q3⟩ trivial (by simp only; omega)
        · exact hK _ (j + 1, s5) (Gh.canon [7, 9] [] [] (by simp only [hw, htn, zar, zaz, zas, zat, zau, zav, List.set_cons_zero, List.set_cons_succ, and_true, true_and, Int.natCast_zero, Int.cast_ofNat_Int, D.v.injEq, Value.int.injEq]; try (repeat' (first | rfl | omega | with_reducible apply And.intro))) rfl rfl) ⟨hj, p3⟩ trivial (by simp only; omega)
    · have hj : j = came.length := by
        have : ¬ (j : Int) < came.length := by simpa using hge
        omega
      subst hj
      have hlk := j2.lk
      rw [List.drop_length] at hlk
      rw [hlk] at hfl
      have hix : idxF (isL L) (lockOf L s.token []) 0 = -1 := rfl
      rw [hix, ← hlk] at hfl
      repeat' (first | (with_reducible first | refine zaa _ _ ?_ | refine zah ?_ | refine zai ?_) | rw [zae] | simp only [pkS, TyB, pkY, Int.reduceEq, bne_self_eq_false, Int.reduceBEq, Int.reduceBNe, implies_true, forall_const, Nat.reduceSub, Nat.reduceEqDiff, Nat.reduceAdd, Nat.reduceMul, Nat.reduceLeDiff, Nat.reduceLT, Nat.reduceBEq, reduceCtorEq] | ((try refine zak ?_); apply zan; (solve | exact (hfl) | exact (haw) | (refine CallOK.le (hfl) ?_; simp [argsLe, aLe, csLe, cLe]) | (refine CallOK.le (haw) ?_; simp [argsLe, aLe, csLe, cLe]))) | (apply zaj; (focus (intro _; (solve | exact (hfl) | exact (haw) | (refine CallOK.le (hfl) ?_; simp [argsLe, aLe, csLe, cLe]) | (refine CallOK.le (haw) ?_; simp [argsLe, aLe, csLe, cLe])))); (focus rfl)) | refine zab ?_ | refine zad (fun hb => ?_) (fun hb => ?_) | (refine And.intro ?_ ?_; focus ((try with_reducible refine zal ?_); first | (with_reducible rfl) | ((with_reducible first | refine zam ?_ | refine zaf ?_ | refine zac ?_); kernel_rfl) | (intros; omega) | (intro q p; rw [q, p]; rfl) | (intro q; rw [q]; rfl) | (intro q; simp only [Bool.and_eq_true, decide_eq_true_eq, beq_iff_eq] at q; omega) | (intros; simp_all; done) | (intros; simp [List.range, List.range.loop]; done) | (intros; simp_all [List.range, List.range.loop]; done))) | refine And.intro (fun hg => ?_) (fun hg => ?_) | (with_reducible refine zac ?_; kernel_rfl) | fail)
      rfl
end Go.Proofs.Ytniafckaafcpbaa
