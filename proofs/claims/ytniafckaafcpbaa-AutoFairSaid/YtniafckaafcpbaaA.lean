import Derived.Test.YtniafckaafcpbaaTy
import Derived.Test.YtniafckaafcpbaaK7
import Derived.KernelRfl
namespace Go.Proofs.Ytniafckaafcpbaa
open Go.Pk
set_option maxRecDepth 100000
set_option linter.unusedSimpArgs false
set_option linter.unusedVariables false
theorem eqBs : (([] : List Nat)).all (eqB Try.prog) = true := by kernel_rfl
theorem zaG : TOK Try.prog Ty := tok_of fun t ht => List.all_eq_true.1 eqBs t ht
theorem mixed : Try.prog.follows .mixedOrders = true := by kernel_rfl
def okByte (c : UInt8) : Bool := !((decide ((c.toNat:Int) < 97) || decide ((c.toNat:Int) > 122)) && (decide ((c.toNat:Int) < 48) || decide ((c.toNat:Int) > 57)) && ((c.toNat:Int) != 45))
def nameP (s : ByteArray) : Bool := ((List.range s.size).all fun j => okByte (s.data.getD j 0)) && (decide ((s.size : Int) ≥ 1) && decide ((s.size : Int) ≤ 12))
theorem zeg (k : Int) : CallOK Try.prog 64 [.f (ai k)] (fun r o => r = [rb (k == 3 || k == 4 || k == 5)] ∧ o = []) := by
  refine zaq zaG mixed (T := Ty) (n := 13) Try.func64 (c := Try.f64.body.getD .skip) rfl Try.results64 Try.ntmps64 Try.call64 ?_
  simp only [Try.f64, Option.getD]
  repeat' (first | with_reducible refine zaa _ _ ?_ | rw [zae] | simp only [pkS, TyB,  implies_true, forall_const, Nat.reduceSub, Nat.reduceEqDiff, Nat.reduceAdd, Nat.reduceMul, Nat.reduceLeDiff, Nat.reduceLT, Nat.reduceBEq, reduceCtorEq] | refine zab ?_ | refine zad (fun hb => ?_) (fun hb => ?_) | (refine And.intro ?_ ?_; focus ((try with_reducible refine zal ?_); first | (with_reducible rfl) | ((with_reducible first | refine zam ?_ | refine zaf ?_ | refine zac ?_); kernel_rfl) | (intros; omega) | (intro q p; rw [q, p]; rfl) | (intro q; rw [q]; rfl) | (intro q; simp only [Bool.and_eq_true, decide_eq_true_eq, beq_iff_eq] at q; omega) | (intros; simp_all; done) | (intros; simp [List.range, List.range.loop]; done) | (intros; simp_all [List.range, List.range.loop]; done))) | refine And.intro (fun hg => ?_) (fun hg => ?_) | (with_reducible refine zac ?_; kernel_rfl) | fail)
theorem zdS (s : ByteArray) (hs : s.size < 2 ^ 62) : CallOK Try.prog 55 [.f (ast s)] (fun r o => r = [rb (nameP s)] ∧ o = []) := by
  refine zaq zaG mixed (T := Ty) (n := 40) Try.func55 (c := Try.f55.body.getD .skip) rfl Try.results55 Try.ntmps55 Try.call55 ?_
  simp only [Try.f55, Option.getD]
  repeat (first | with_reducible refine zaa _ _ ?_ | with_reducible refine And.imp_right (zaa _ _) ?_ | with_reducible refine And.imp_right (And.imp_right (zaa _ _)) ?_ | with_reducible refine And.imp_right (And.imp_right (And.imp_right (zaa _ _))) ?_ | rw [zae] | simp only [pkS, TyB,  implies_true, forall_const, Nat.reduceSub, Nat.reduceEqDiff, Nat.reduceAdd, Nat.reduceMul, Nat.reduceLeDiff, Nat.reduceLT, Nat.reduceBEq, reduceCtorEq])
  refine zh2 Ty Try.prog (τ := Nat) (fun i => ⟨[ast s, dd, ab false, dd, dd, ast s, ai s.size, ai i, dd, dd, dd, dd, dd, dd, dd, dd, dd, dd, dd, dd, dd, dd, dd, dd, dd, dd, dd, dd, dd, dd, dd, dd, dd, dd, dd, dd, dd, dd, dd, dd], []⟩) (fun i => i ≤ s.size ∧ ∀ j, j < i → okByte (s.data.getD j 0) = true) (fun i => s.size - i) 0 ?_ ⟨Nat.zero_le _, fun j hj => absurd hj (Nat.not_lt_zero j)⟩ ?_
  · refine Gh.fgt ?_
    simp only [zaQ, zaR, za6, Int.natCast_zero]
  intro i ⟨h1, h2⟩ K hK
  repeat (first | with_reducible refine zaa _ _ ?_ | with_reducible refine And.imp_right (zaa _ _) ?_ | with_reducible refine And.imp_right (And.imp_right (zaa _ _)) ?_ | with_reducible refine And.imp_right (And.imp_right (And.imp_right (zaa _ _))) ?_ | rw [zae] | simp only [pkS, TyB,  implies_true, forall_const, Nat.reduceSub, Nat.reduceEqDiff, Nat.reduceAdd, Nat.reduceMul, Nat.reduceLeDiff, Nat.reduceLT, Nat.reduceBEq, reduceCtorEq])
  rw [zcb]
  refine ⟨trivial, fun hlt => ?_, fun hge => ?_⟩
  · repeat (first | with_reducible refine zaa _ _ ?_ | with_reducible refine And.imp_right (zaa _ _) ?_ | with_reducible refine And.imp_right (And.imp_right (zaa _ _)) ?_ | with_reducible refine And.imp_right (And.imp_right (And.imp_right (zaa _ _))) ?_ | rw [zae] | simp only [pkS, TyB,  implies_true, forall_const, Nat.reduceSub, Nat.reduceEqDiff, Nat.reduceAdd, Nat.reduceMul, Nat.reduceLeDiff, Nat.reduceLT, Nat.reduceBEq, reduceCtorEq])
    have hi : i < s.size := by simpa using hlt
    refine ⟨⟨Int.natCast_nonneg i, by omega⟩, zal (fun a b => by rw [a, b]; rfl), ?_⟩
    have hok : okByte (s.data.getD i 0) = !((decide (((s.data.getD i 0).toNat:Int) < 97) || decide (((s.data.getD i 0).toNat:Int) > 122)) && (decide (((s.data.getD i 0).toNat:Int) < 48) || decide (((s.data.getD i 0).toNat:Int) > 57)) && (((s.data.getD i 0).toNat:Int) != 45)) := rfl
    rw [zcb]
    refine ⟨trivial, fun hb => ?_, fun hb => ?_⟩
    · rw [hb] at hok
      repeat (first | with_reducible refine zaa _ _ ?_ | with_reducible refine And.imp_right (zaa _ _) ?_ | with_reducible refine And.imp_right (And.imp_right (zaa _ _)) ?_ | with_reducible refine And.imp_right (And.imp_right (And.imp_right (zaa _ _))) ?_ | rw [zae] | simp only [pkS, TyB,  implies_true, forall_const, Nat.reduceSub, Nat.reduceEqDiff, Nat.reduceAdd, Nat.reduceMul, Nat.reduceLeDiff, Nat.reduceLT, Nat.reduceBEq, reduceCtorEq])
      have hn : nameP s = false := by
        unfold nameP
        rw [show ((List.range s.size).all fun j => okByte (s.data.getD j 0)) = false from List.all_eq_false.2 ⟨i, List.mem_range.2 hi, by rw [hok]; simp⟩, Bool.false_and]
      rw [hn]
    · rw [hb] at hok
      repeat (first | with_reducible refine zaa _ _ ?_ | with_reducible refine And.imp_right (zaa _ _) ?_ | with_reducible refine And.imp_right (And.imp_right (zaa _ _)) ?_ | with_reducible refine And.imp_right (And.imp_right (And.imp_right (zaa _ _))) ?_ | rw [zae] | simp only [pkS, TyB,  implies_true, forall_const, Nat.reduceSub, Nat.reduceEqDiff, Nat.reduceAdd, Nat.reduceMul, Nat.reduceLeDiff, Nat.reduceLT, Nat.reduceBEq, reduceCtorEq])
      refine hK _ (i + 1) (Gh.fgt ?_) ⟨hi, fun j hj => ?_⟩ (by omega)
      · have hw : IntKind.i64.wrap ((i : Int) + 1) = ((i + 1 : Nat) : Int) := by rw [wrap64 (by omega) (by omega)]; rfl
        simp only [hw, zaQ, zaR, za6]
      · rcases Nat.lt_or_ge j i with h | h
        · exact h2 j h
        · rw [show j = i from by omega, hok]; rfl
  · repeat (first | with_reducible refine zaa _ _ ?_ | with_reducible refine And.imp_right (zaa _ _) ?_ | with_reducible refine And.imp_right (And.imp_right (zaa _ _)) ?_ | with_reducible refine And.imp_right (And.imp_right (And.imp_right (zaa _ _))) ?_ | rw [zae] | simp only [pkS, TyB,  implies_true, forall_const, Nat.reduceSub, Nat.reduceEqDiff, Nat.reduceAdd, Nat.reduceMul, Nat.reduceLeDiff, Nat.reduceLT, Nat.reduceBEq, reduceCtorEq])
    have hi : i = s.size := by
      have : ¬ (i : Int) < s.size := by simpa using hge
      omega
    have hn : nameP s = (decide ((s.size : Int) ≥ 1) && decide ((s.size : Int) ≤ 12)) := by
      unfold nameP
      rw [show ((List.range s.size).all fun j => okByte (s.data.getD j 0)) = true from List.all_eq_true.2 fun j hj => h2 j (by rw [hi]; exact List.mem_range.1 hj), Bool.true_and]
    rw [hn]
def mayP (k n : Int) (s : ByteArray) : Bool :=
  if (decide (k < 1) || decide (k > 6)) = true then false else
  if ((k == 3 || k == 4 || k == 5) && !nameP s || !(k == 3 || k == 4 || k == 5) && !s.toList == (⟨#[]⟩ : ByteArray).toList) = true then false else
  if (k == 1) = true then n == 0 else decide (n ≥ 1) && decide (n ≤ 2305843009213693952)
theorem zia (k n : Int) (s : ByteArray) (hs : s.size < 2 ^ 62) : CallOK Try.prog 41 [.f (.agg [di k, di n, dS s])] (fun r o => r = [rb (mayP k n s)] ∧ o = []) := by
  refine zaq zaG mixed (T := Ty) (n := 48) Try.func41 (c := Try.f41.body.getD .skip) rfl Try.results41 Try.ntmps41 Try.call41 ?_
  simp only [Try.f41, Option.getD]
  repeat' (first | with_reducible refine zaa _ _ ?_ | rw [zae] | simp only [pkS, TyB,  implies_true, forall_const, Nat.reduceSub, Nat.reduceEqDiff, Nat.reduceAdd, Nat.reduceMul, Nat.reduceLeDiff, Nat.reduceLT, Nat.reduceBEq, reduceCtorEq] | ((try refine zak ?_); apply zan; (solve | exact (zeg _) | exact (zdS _ hs) | (refine CallOK.le (zeg _) ?_; simp [argsLe, aLe, csLe, cLe]) | (refine CallOK.le (zdS _ hs) ?_; simp [argsLe, aLe, csLe, cLe]))) | (apply zaj; (focus (intro _; (solve | exact (zeg _) | exact (zdS _ hs) | (refine CallOK.le (zeg _) ?_; simp [argsLe, aLe, csLe, cLe]) | (refine CallOK.le (zdS _ hs) ?_; simp [argsLe, aLe, csLe, cLe])))); (focus rfl)) | refine zab ?_ | refine zad (fun hb => ?_) (fun hb => ?_) | (refine And.intro ?_ ?_; focus ((try with_reducible refine zal ?_); first | (with_reducible rfl) | ((with_reducible first | refine zam ?_ | refine zaf ?_ | refine zac ?_); kernel_rfl) | (intros; omega) | (intro q p; rw [q, p]; rfl) | (intro q; rw [q]; rfl) | (intro q; simp only [Bool.and_eq_true, decide_eq_true_eq, beq_iff_eq] at q; omega) | (intros; simp_all; done) | (intros; simp [List.range, List.range.loop]; done) | (intros; simp_all [List.range, List.range.loop]; done))) | refine And.intro (fun hg => ?_) (fun hg => ?_) | (with_reducible refine zac ?_; kernel_rfl) | fail)
  · rw [mayP, if_pos (by assumption)]
  · rw [mayP, if_neg (by simp_all), if_pos (by assumption)]
  · rw [mayP, if_neg (by simp_all), if_neg (by simp_all), if_pos (by assumption)]
  · rw [mayP, if_neg (by simp_all), if_neg (by simp_all), if_neg (by simp_all)]
def Req.may (r : Req) : Bool := (decide (r.client ≥ 0) && decide (r.client < 8) && decide (r.seq ≥ 1) && decide (r.seq ≤ High)) && mayP r.kind r.session r.name
theorem mayReq_ok (r : Req) (hr : r.ok) : CallOK Try.prog 18 [.f (.agg (r.enc.map C.d))] (fun x o => x = [rb (Req.may r)] ∧ o = []) := by
  refine zaq zaG mixed (T := Ty) (n := 26) Try.func18 (c := Try.f18.body.getD .skip) rfl Try.results18 Try.ntmps18 Try.call18 ?_
  simp only [Try.f18, Option.getD]
  repeat' (first | with_reducible refine zaa _ _ ?_ | rw [zae] | simp only [pkS, TyB,  implies_true, forall_const, Nat.reduceSub, Nat.reduceEqDiff, Nat.reduceAdd, Nat.reduceMul, Nat.reduceLeDiff, Nat.reduceLT, Nat.reduceBEq, reduceCtorEq] | ((try refine zak ?_); apply zan; (solve | exact (zia _ _ _ hr.2.2.2.2) | (refine CallOK.le (zia _ _ _ hr.2.2.2.2) ?_; simp [argsLe, aLe, csLe, cLe]))) | (apply zaj; (focus (intro _; (solve | exact (zia _ _ _ hr.2.2.2.2) | (refine CallOK.le (zia _ _ _ hr.2.2.2.2) ?_; simp [argsLe, aLe, csLe, cLe])))); (focus rfl)) | refine zab ?_ | refine zad (fun hb => ?_) (fun hb => ?_) | (refine And.intro ?_ ?_; focus ((try with_reducible refine zal ?_); first | (with_reducible rfl) | ((with_reducible first | refine zam ?_ | refine zaf ?_ | refine zac ?_); kernel_rfl) | (intros; omega) | (intro q p; rw [q, p]; rfl) | (intro q; rw [q]; rfl) | (intro q; simp only [Bool.and_eq_true, decide_eq_true_eq, beq_iff_eq] at q; omega) | (intros; simp_all; done) | (intros; simp [List.range, List.range.loop]; done) | (intros; simp_all [List.range, List.range.loop]; done))) | refine And.intro (fun hg => ?_) (fun hg => ?_) | (with_reducible refine zac ?_; kernel_rfl) | fail)
  rfl
end Go.Proofs.Ytniafckaafcpbaa
