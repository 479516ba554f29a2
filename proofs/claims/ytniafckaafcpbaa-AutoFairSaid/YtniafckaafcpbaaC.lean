import Derived.Test.YtniafckaafcpbaaB
namespace Go.Proofs.Ytniafckaafcpbaa
open Go.Pk
set_option maxRecDepth 100000
set_option linter.unusedSimpArgs false
set_option linter.unusedVariables false
set_option maxHeartbeats 2000000 in
theorem delLock_ok (n i : Nat) (ds : List D) (hd : ds.length = (n + 1) * 4) (hi : i ≤ n) (hn : n < 2 ^ 30) : CallOK Try.prog 85 [.row 4 (n + 1) ds, .f (ai i), .f (ai ((i + 1 : Nat) : Int))]
    (fun r o => r = [.one (.own 4 n (ds.take (i * 4) ++ ds.drop ((i + 1) * 4)) true)] ∧ o = [[]]) := by
  refine CallOK.wk ?_ (by simp only [List.length_append, List.length_take, List.length_drop]; omega)
  refine zbK zaG mixed (T := Ty) (n := 33) Try.func85 (c := Try.f85.body.getD .skip) rfl Try.results85 Try.ntmps85 Try.call85 (fun k => ⟨(openG 33 [.row 4 (n + 1) ds, .f (ai i), .f (ai ((i + 1 : Nat) : Int))]).v.set 0 (.one (.gap ⟨0, 1, 0⟩ 0 (n + 1) k)), (openG 33 [.row 4 (n + 1) ds, .f (ai i), .f (ai ((i + 1 : Nat) : Int))]).r⟩) (fun k => (n + 1) ≤ k) (fun cx a w hh => zgg hh rfl rfl) ?_
  intro k hk
  simp only [Try.f85, Option.getD]
  have hb1 : ((i : Int) == ((i + 1 : Nat) : Int)) = false := by simp; omega
  obtain ⟨A, hA⟩ : ∃ A, A = ds.take (i * 4) := ⟨_, rfl⟩
  obtain ⟨Bq, hB⟩ : ∃ B, B = ds.drop ((i + 1) * 4) := ⟨_, rfl⟩
  have hn1 : i + (n + 1 - (i + 1)) = n := by omega
  have hAl : A.length = i * 4 := by rw [hA, List.length_take]; omega
  have hBl : Bq.length = (n + 1 - (i + 1)) * 4 := by rw [hB, List.length_drop]; omega
  have htB : Bq.take ((n + 1 - (i + 1)) * 4) = Bq := List.take_of_length_le (by omega)
  obtain ⟨Z, hZ⟩ : ∃ Z, Z = zeroD [.string .empty, .int .i64 0, .int .i64 0, .slice none 0 0] (n + 1 - n) := ⟨_, rfl⟩
  have hl1 : (A ++ Bq).length = n * 4 := by rw [List.length_append]; omega
  have e1 : ∀ (a b : Out), (if n ≤ k then a else b) = a := fun a b => if_pos (by omega)
  have e2 : List.take (n * 4) (List.map C.d (A ++ Bq)) ++ List.map C.d Z ++ List.drop (n * 4 + Z.length) (List.map C.d (A ++ Bq)) = List.map C.d (A ++ Bq ++ Z) := by
    rw [List.take_of_length_le (by rw [List.length_map]; omega), List.drop_of_length_le (by rw [List.length_map]; omega)]; simp
  have hl2 : n * 4 ≤ (A ++ Bq ++ Z).length := by rw [List.length_append]; omega
  repeat' (first | (with_reducible first | refine zaa _ _ ?_ | refine zah ?_ | refine zai ?_) | rw [zae] | simp only [pkS, TyB, hb1, e1, hd, ← hA, ← hB, htB, hBl, hn1, ← hZ, e2, hl1, pkY, Int.reduceEq, bne_self_eq_false, Int.reduceBEq, Int.reduceBNe, implies_true, forall_const, Nat.reduceSub, Nat.reduceEqDiff, Nat.reduceAdd, Nat.reduceMul, Nat.reduceLeDiff, Nat.reduceLT, Nat.reduceBEq, reduceCtorEq] | refine zab ?_ | refine zad (fun hb => ?_) (fun hb => ?_) | (refine And.intro ?_ ?_; focus ((try with_reducible refine zal ?_); first | (with_reducible rfl) | ((with_reducible first | refine zam ?_ | refine zaf ?_ | refine zac ?_); kernel_rfl) | (intros; omega) | (intro q p; rw [q, p]; rfl) | (intro q; rw [q]; rfl) | (intro q; simp only [Bool.and_eq_true, decide_eq_true_eq, beq_iff_eq] at q; omega) | (intros; simp_all; done) | (intros; simp [List.range, List.range.loop]; done) | (intros; simp_all [List.range, List.range.loop]; done))) | refine And.intro (fun hg => ?_) (fun hg => ?_) | (with_reducible refine zac ?_; kernel_rfl) | fail)
  exact ⟨Z, _, rfl, .inl trivial⟩
set_option maxHeartbeats 2000000 in
theorem delInt_ok (n i : Nat) (ds : List D) (hd : ds.length = (n + 1)) (hi : i ≤ n) (hn : n < 2 ^ 30) : CallOK Try.prog 95 [.row 1 (n + 1) ds, .f (ai i), .f (ai ((i + 1 : Nat) : Int))]
    (fun r o => r = [.one (.own 1 n (ds.take (i) ++ ds.drop ((i + 1))) true)] ∧ o = [[]]) := by
  refine CallOK.wk ?_ (by simp only [List.length_append, List.length_take, List.length_drop]; omega)
  refine zbK zaG mixed (T := Ty) (n := 33) Try.func95 (c := Try.f95.body.getD .skip) rfl Try.results95 Try.ntmps95 Try.call95 (fun k => ⟨(openG 33 [.row 1 (n + 1) ds, .f (ai i), .f (ai ((i + 1 : Nat) : Int))]).v.set 0 (.one (.gap ⟨0, 1, 0⟩ 0 (n + 1) k)), (openG 33 [.row 1 (n + 1) ds, .f (ai i), .f (ai ((i + 1 : Nat) : Int))]).r⟩) (fun k => (n + 1) ≤ k) (fun cx a w hh => zgg hh rfl rfl) ?_
  intro k hk
  simp only [Try.f95, Option.getD]
  have hb1 : ((i : Int) == ((i + 1 : Nat) : Int)) = false := by simp; omega
  obtain ⟨A, hA⟩ : ∃ A, A = ds.take (i) := ⟨_, rfl⟩
  obtain ⟨Bq, hB⟩ : ∃ B, B = ds.drop ((i + 1)) := ⟨_, rfl⟩
  have hn1 : i + (n + 1 - (i + 1)) = n := by omega
  have hAl : A.length = i := by rw [hA, List.length_take]; omega
  have hBl : Bq.length = (n + 1 - (i + 1)) := by rw [hB, List.length_drop]; omega
  have htB : Bq.take ((n + 1 - (i + 1))) = Bq := List.take_of_length_le (by omega)
  obtain ⟨Z, hZ⟩ : ∃ Z, Z = zeroD [.int .i64 0] (n + 1 - n) := ⟨_, rfl⟩
  have hl1 : (A ++ Bq).length = n := by rw [List.length_append]; omega
  have e1 : ∀ (a b : Out), (if n ≤ k then a else b) = a := fun a b => if_pos (by omega)
  have e2 : List.take (n) (List.map C.d (A ++ Bq)) ++ List.map C.d Z ++ List.drop (n + Z.length) (List.map C.d (A ++ Bq)) = List.map C.d (A ++ Bq ++ Z) := by
    rw [List.take_of_length_le (by rw [List.length_map]; omega), List.drop_of_length_le (by rw [List.length_map]; omega)]; simp
  have hl2 : n ≤ (A ++ Bq ++ Z).length := by rw [List.length_append]; omega
  repeat' (first | (with_reducible first | refine zaa _ _ ?_ | refine zah ?_ | refine zai ?_) | rw [zae] | simp only [pkS, TyB, hb1, e1, hd, ← hA, ← hB, htB, hBl, hn1, ← hZ, e2, hl1, pkY, Int.reduceEq, bne_self_eq_false, Int.reduceBEq, Int.reduceBNe, implies_true, forall_const, Nat.reduceSub, Nat.reduceEqDiff, Nat.reduceAdd, Nat.reduceMul, Nat.reduceLeDiff, Nat.reduceLT, Nat.reduceBEq, reduceCtorEq] | refine zab ?_ | refine zad (fun hb => ?_) (fun hb => ?_) | (refine And.intro ?_ ?_; focus ((try with_reducible refine zal ?_); first | (with_reducible rfl) | ((with_reducible first | refine zam ?_ | refine zaf ?_ | refine zac ?_); kernel_rfl) | (intros; omega) | (intro q p; rw [q, p]; rfl) | (intro q; rw [q]; rfl) | (intro q; simp only [Bool.and_eq_true, decide_eq_true_eq, beq_iff_eq] at q; omega) | (intros; simp_all; done) | (intros; simp [List.range, List.range.loop]; done) | (intros; simp_all [List.range, List.range.loop]; done))) | refine And.intro (fun hg => ?_) (fun hg => ?_) | (with_reducible refine zac ?_; kernel_rfl) | fail)
  exact ⟨Z, _, rfl, .inl trivial⟩
end Go.Proofs.Ytniafckaafcpbaa
