import Derived.Test.YtiegkabcgokhkaaGreatRK
namespace Go.Proofs.YtiegkabcgokhkaaGreat
open Go.Pk
set_option maxRecDepth 100000
set_option linter.unusedSimpArgs false
set_option linter.unusedVariables false
def szP (k : Nat) : Nat := if k = 2 then 36 else 1
theorem zm0 {P : Program} {fc : FuncId} {ks : List Nat} {sz : Nat → Nat} {nw : Value → Nat → List Value} : CatchC P fc ks sz nw (fun _ => False) := fun _ _ _ h => h.elim
theorem zly {r : Reply} (h : replyB r = true) : ∀ x ∈ replyI r, byteI x := by
 obtain ⟨f1, f2, f3, f4, f5⟩ := za6 h
 have hg := za7 h
 intro x hx
 simp only [replyI, List.mem_append, List.mem_cons, List.not_mem_nil, or_false] at hx
 rcases hx with rfl | hx | (rfl | rfl) | hx
 ·exact ⟨by omega, by omega⟩
 ·exact zks _ x hx
 ·exact ⟨by omega, by omega⟩
 ·exact ⟨by omega, by omega⟩
 ·obtain ⟨g, g1, g2⟩ := List.mem_flatMap.1 hx
  rcases List.mem_append.1 g2 with g2 | g2
  ·exact zm4 _ (by have := (hg g g1).1; omega) x g2
  ·exact zks _ x g2
theorem ziR {m : Memo} (h : answerB m = true) : BsOk (packAI m) := by
 obtain ⟨f1, f2, f3⟩ := zaX h
 refine ⟨?_, ?_⟩
 ·have := zch h
  rw [packAI, List.length_append, List.length_singleton]; omega
 ·intro x hx
  simp only [packAI, answerI, List.mem_append, List.mem_cons, List.not_mem_nil, or_false] at hx
  rcases hx with rfl | rfl | hx | hx
  ·exact ⟨by omega, by omega⟩
  ·exact ⟨by omega, by omega⟩
  ·exact zks _ x hx
  ·exact zly f3 x hx
abbrev z36 : List C := [di 0, di 0, di 0, di 0, di 0, di 0, di 0, di 0, dS .empty, di 0, di 0, di 0, di 0, di 0, dn, db false, di 0, di 0, di 0, di 0, dn, di 0, di 0, di 0, di 0, di 0, dn, di 0, di 0, di 0, di 0, di 0, di 0, dn, dn, dn]
set_option maxHeartbeats 1000000 in
theorem zm1 (bs : List Int) (m : Memo) (hm : answerB m = true) (hb : bs = packAI m) :
  CallOK Tryz.prog 14 [.f (asl bs.length (bytesE bs))] (fun r o => r = [.agg ((pkMD m).map RO.d), ri 0] ∧ o = []) := by
 have h : BsOk bs := hb ▸ ziR hm
 refine zaV zaB mixed (T := Ty) Tryz.func14 rfl Tryz.results14 Tryz.ntmps14 Tryz.call14 Tryz.call39 (ks := [2, 3]) rfl rfl rfl rfl rfl rfl (by decide) (by decide)
  (xs := [asl bs.length (bytesE bs)]) (sz := szP) (nw := fun _ _ => []) zkr zm0 ⟨[asl bs.length (bytesE bs), dd, .one (.ptr ⟨2, 0, 0⟩ 0), .one (.ptr ⟨3, 0, 0⟩ 0), dd, dd, dd, dd, dd, dd, dd, dd, dd, dd, dd, dd, dd, dd, dd, dd, dd, dd, dd, dd, dd, dd, dd, dd, dd, dd, dd, dd, dd, dd, dd, dd, dd, dd, dd], [(2, { next := 1, l := [some { e := 0, var := true, fz := false, sz := 0, cells := z36 }, none, none, none, none, none, none, none, none, none, none, none, none, none, none, none, none, none, none, none, none, none, none, none, none, none, none, none, none, none, none, none, none, none, none, none, none] }), (3, { next := 1, l := [some { e := 0, var := true, fz := false, sz := 0, cells := [di 0] }, none] })]⟩ ?_ ?_ rfl ?_
 ·simp only [List.map_cons, List.map_nil]
  repeat' (first | (with_reducible first | refine zaa _ _ ?_ | refine zaf ?_ | refine zah ?_) | rw [zai] | simp only [pkS, TyB, pkY, Int.reduceEq, bne_self_eq_false, Int.reduceBEq, Int.reduceBNe, implies_true, forall_const, Nat.reduceSub, Nat.reduceEqDiff, Nat.reduceAdd, Nat.reduceMul, Nat.reduceLeDiff, Nat.reduceLT, Nat.reduceBEq, reduceCtorEq] | refine zab ?_ | refine zad (fun hb => ?_) (fun hb => ?_) | (refine And.intro ?_ ?_; focus ((try with_reducible refine zaj ?_); first | (with_reducible rfl) | ((with_reducible first | refine zak ?_ | refine zae ?_ | refine zac ?_); kernel_rfl) | (intros; omega) | (intro q p; rw [q, p]; rfl) | (intro q; rw [q]; rfl) | (intro q; simp only [Bool.and_eq_true, decide_eq_true_eq, beq_iff_eq] at q; omega) | (intros; simp [List.range, List.range.loop]; done) | (intros; simp_all [List.range, List.range.loop]; done))) | refine And.intro (fun hg => ?_) (fun hg => ?_) | (with_reducible refine zac ?_; kernel_rfl) | fail)
  exact fun _ _ _ h => h
 ·exact ⟨⟨_, rfl, rfl, rfl, rfl, rfl⟩, ⟨_, rfl, rfl, rfl, rfl, rfl⟩, trivial⟩
 ·have h1 := ziS bs m h hm hb
  have h2 := zhC m hm
  rw [← hb] at h2
  have h3 := zlz bs.length bs rfl
  have hl : decide ((bs.length : Int) > 2048) = false := by
   have := zch hm
   have e : bs.length = 1 + (answerI m).length := by rw [hb, packAI, List.length_append]; rfl
   simp; omega
  have hne : ((bs.length : Int) != (bs.length : Int)) = false := by simp
  repeat' (first | (with_reducible first | refine zaa _ _ ?_ | refine zaf ?_ | refine zah ?_) | rw [zai] | simp only [pkS, TyB, hl, pkY, Int.reduceEq, bne_self_eq_false, Int.reduceBEq, Int.reduceBNe, implies_true, forall_const, Nat.reduceSub, Nat.reduceEqDiff, Nat.reduceAdd, Nat.reduceMul, Nat.reduceLeDiff, Nat.reduceLT, Nat.reduceBEq, reduceCtorEq] | refine zab ?_ | refine zad (fun hb => ?_) (fun hb => ?_) | (refine And.intro ?_ ?_; focus ((try with_reducible refine zaj ?_); first | (with_reducible rfl) | ((with_reducible first | refine zak ?_ | refine zae ?_ | refine zac ?_); kernel_rfl) | (intros; omega) | (intro q p; rw [q, p]; rfl) | (intro q; rw [q]; rfl) | (intro q; simp only [Bool.and_eq_true, decide_eq_true_eq, beq_iff_eq] at q; omega) | (intros; simp [List.range, List.range.loop]; done) | (intros; simp_all [List.range, List.range.loop]; done))) | refine And.intro (fun hg => ?_) (fun hg => ?_) | (with_reducible refine zac ?_; kernel_rfl) | fail)
  refine zaM (mv := ?mv1) (lent := ?le1) (x := ?x1) (ass := ?ass1) ?ha1 (h1) ?hr1 rfl ?hs1 ?hb1 ?hc1
  case ha1 => (try simp only [pkS, TyB, pkY, Int.reduceEq, bne_self_eq_false, Int.reduceBEq, Int.reduceBNe, implies_true, forall_const, Nat.reduceSub, Nat.reduceEqDiff, Nat.reduceAdd, Nat.reduceMul, Nat.reduceLeDiff, Nat.reduceLT, Nat.reduceBEq, reduceCtorEq]); exact rfl
  case hr1 => simp [rosA, roA]
  case hs1 => simp [argsLe, aLe, csLe, cLe]
  case hb1 => (try simp only [pkS, TyB, scM, implies_true, forall_const, Nat.reduceSub, Nat.reduceEqDiff, Nat.reduceAdd, Nat.reduceMul, Nat.reduceLeDiff, Nat.reduceLT, Nat.reduceBEq, reduceCtorEq]); repeat' (first | rfl | trivial | omega | with_reducible refine And.intro ?_ ?_)
  show aops _ _ _ _ _ _ _ _
  have t2 : (bytesE bs).take bs.length = bytesE bs := List.take_of_length_le (by rw [List.length_map]; exact Nat.le_refl _)
  repeat' (first | (with_reducible first | refine zaa _ _ ?_ | refine zaf ?_ | refine zah ?_) | rw [zai] | simp only [pkS, TyB, hne, t2, zei, pkY, Int.reduceEq, bne_self_eq_false, Int.reduceBEq, Int.reduceBNe, implies_true, forall_const, Nat.reduceSub, Nat.reduceEqDiff, Nat.reduceAdd, Nat.reduceMul, Nat.reduceLeDiff, Nat.reduceLT, Nat.reduceBEq, reduceCtorEq] | ((first | ((try refine zal ?_); apply zao) | (apply zam; intro _)); (solve | exact (h2) | exact (h3) | (refine CallOK.le (h2) ?_; simp [argsLe, aLe, csLe, cLe]) | (refine CallOK.le (h3) ?_; simp [argsLe, aLe, csLe, cLe])); try case hn => rfl) | refine zab ?_ | refine zad (fun hb => ?_) (fun hb => ?_) | (refine And.intro ?_ ?_; focus ((try with_reducible refine zaj ?_); first | (with_reducible rfl) | ((with_reducible first | refine zak ?_ | refine zae ?_ | refine zac ?_); kernel_rfl) | (intros; omega) | (intro q p; rw [q, p]; rfl) | (intro q; rw [q]; rfl) | (intro q; simp only [Bool.and_eq_true, decide_eq_true_eq, beq_iff_eq] at q; omega) | (intros; simp [List.range, List.range.loop]; done) | (intros; simp_all [List.range, List.range.loop]; done))) | refine And.intro (fun hg => ?_) (fun hg => ?_) | (with_reducible refine zac ?_; kernel_rfl) | fail)
end Go.Proofs.YtiegkabcgokhkaaGreat
