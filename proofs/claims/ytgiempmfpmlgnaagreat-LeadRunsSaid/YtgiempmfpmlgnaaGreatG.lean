/- Contracts: the sort. -/
import Derived.Test.YtgiempmfpmlgnaaGreatF
namespace Go.Proofs.YtgiempmfpmlgnaaGreat
open Go.Pk
set_option maxRecDepth 100000
set_option linter.unusedSimpArgs false
set_option linter.unusedVariables false
theorem promC_at {l : List Prom} {i : Nat} (hi : i < l.length) : ((promisesE l).map C.d).drop (i * 6) = .d (iD l[i].src) :: .d (iD l[i].done) :: .d (iD l[i].tip.view) :: .d (iD l[i].tip.slot) :: .d (iD l[i].time) :: .d (.sl l[i].votes.length (votesE l[i].votes)) :: (promisesE (l.drop (i + 1))).map C.d := by
  rw [← List.map_drop, promises_at hi]; rfl
def swapP (l : List Prom) (j : Nat) : List Prom :=
  match l[j]?, l[j + 1]? with
  | some a, some b => (l.set (j + 1) a).set j b
  | _, _ => l
theorem setP : ∀ (l : List Prom) (i : Nat) (p : Prom), ((((((((promisesE l).map C.d).set (i * 6) (.d (iD p.src))).set (i * 6 + 1) (.d (iD p.done))).set (i * 6 + 1 + 1) (.d (iD p.tip.view))).set (i * 6 + 1 + 1 + 1) (.d (iD p.tip.slot))).set (i * 6 + 1 + 1 + 1 + 1) (.d (iD p.time))).set (i * 6 + 1 + 1 + 1 + 1 + 1) (.d (.sl p.votes.length (votesE p.votes)))) = (promisesE (l.set i p)).map C.d
  | [], _, _ => rfl
  | q :: l, 0, p => rfl
  | q :: l, i + 1, p => by
    have h := setP l i p
    rw [show (i + 1) * 6 = i * 6 + 1 + 1 + 1 + 1 + 1 + 1 by omega]
    rw [List.set_cons_succ]
    show _ = List.map C.d (q.enc ++ promisesE (l.set i p))
    rw [List.map_append, ← h]
    rfl
theorem swapP_len {l : List Prom} {j : Nat} : (swapP l j).length = l.length := by
  unfold swapP
  split <;> simp
theorem swapP_mem {l : List Prom} {j : Nat} {p : Prom} (h : p ∈ swapP l j) : p ∈ l := by
  unfold swapP at h
  split at h
  · rename_i a b h1 h2
    rcases List.mem_or_eq_of_mem_set h with h | rfl
    · rcases List.mem_or_eq_of_mem_set h with h | rfl
      · exact h
      · exact List.mem_of_getElem? h1
    · exact List.mem_of_getElem? h2
  · exact h
def innerP (l : List Prom) : Nat → List Prom
  | 0 => l
  | j + 1 => match l[j + 1]?, l[j]? with
    | some b, some a => if b.src < a.src then innerP (swapP l j) j else l
    | _, _ => l
def outerP (l : List Prom) (i : Nat) : Nat → List Prom
  | 0 => l
  | k + 1 => outerP (innerP l i) (i + 1) k
set_option maxHeartbeats 1000000 in
theorem insSort_ok (l : List Prom) (hl : l.length < 2 ^ 40) (hs : ∀ p ∈ l, 0 ≤ p.src ∧ p.src < 7) : CallOK Tryz.prog 91 [.row 6 l.length (promisesE l), .f (ai 0), .f (ai l.length), .f (.one (.clos 58 []))] (fun r o => r = [] ∧ o = [[.own 6 l.length (promisesE (outerP l 1 (l.length - 1))) true]]) := by
  refine callOK_of TOKTy mixed (T := Ty) (n := 53) Tryz.func91 (c := Tryz.f91.body.getD .skip) rfl Tryz.results91 Tryz.ntmps91 Tryz.call91 ?_
  simp only [Tryz.f91, Option.getD]
  repeat (first | with_reducible refine SeqQ_normal _ _ ?_ | with_reducible refine And.imp_right (SeqQ_normal _ _) ?_ | with_reducible refine And.imp_right (And.imp_right (SeqQ_normal _ _)) ?_ | with_reducible refine And.imp_right (And.imp_right (And.imp_right (SeqQ_normal _ _))) ?_ | rw [awp_seq] | simp only [pkS, TyB,  implies_true, forall_const, Nat.reduceSub, Nat.reduceEqDiff, Nat.reduceAdd, Nat.reduceMul, Nat.reduceLeDiff, Nat.reduceLT, Nat.reduceBEq, reduceCtorEq])
  refine LoopR_fn (τ := Nat × List Prom) (fun t => ⟨[.one (.own ⟨0, 1, 0⟩ 0 l.length), ai 0, ai l.length, .one (.clos 58 []), dd, dd, dd, dd, ai t.1, dd, dd, dd, dd, dd, dd, dd, dd, dd, dd, dd, dd, dd, dd, dd, dd, dd, dd, dd, dd, dd, dd, dd, dd, dd, dd, dd, dd, dd, dd, dd, dd, dd, dd, dd, dd, dd, dd, dd, dd, dd, dd, dd, dd],
    [(0, { next := 1, l := [none, some { e := 0, var := false, fz := false, bor := true, sz := 6, cells := (promisesE t.2).map C.d }] })]⟩)
    (fun t => 1 ≤ t.1 ∧ t.2.length = l.length ∧ ∀ p ∈ t.2, 0 ≤ p.src ∧ p.src < 7) (fun t => outerP t.2 t.1 (l.length - t.1)) (fun t => l.length - t.1) (1, l) (Gh.keep [0] [] ?_ rfl) ⟨Nat.le_refl _, rfl, hs⟩ ?_
  · simp only [fgt_dead, fgt_same, fgt_nil, Int.natCast_zero]
    simp only [show IntKind.i64.wrap (0 + 1) = ((1 : Nat) : Int) from by decide, fgt_dead, fgt_same, fgt_nil]
  intro ⟨i, l2⟩ ⟨hi0, hl2, hs2⟩ hF K hK
  simp only at hi0 hl2 hs2 hF hK ⊢
  repeat (first | with_reducible refine SeqQ_normal _ _ ?_ | with_reducible refine And.imp_right (SeqQ_normal _ _) ?_ | with_reducible refine And.imp_right (And.imp_right (SeqQ_normal _ _)) ?_ | with_reducible refine And.imp_right (And.imp_right (And.imp_right (SeqQ_normal _ _))) ?_ | rw [awp_seq] | simp only [pkS, TyB,  implies_true, forall_const, Nat.reduceSub, Nat.reduceEqDiff, Nat.reduceAdd, Nat.reduceMul, Nat.reduceLeDiff, Nat.reduceLT, Nat.reduceBEq, reduceCtorEq])
  refine CondR_of (fun hlt => ?_) (fun hge => ?_)
  · have hi : i < l.length := by simpa using hlt
    repeat (first | with_reducible refine SeqQ_normal _ _ ?_ | with_reducible refine And.imp_right (SeqQ_normal _ _) ?_ | with_reducible refine And.imp_right (And.imp_right (SeqQ_normal _ _)) ?_ | with_reducible refine And.imp_right (And.imp_right (And.imp_right (SeqQ_normal _ _))) ?_ | rw [awp_seq] | simp only [pkS, TyB,  implies_true, forall_const, Nat.reduceSub, Nat.reduceEqDiff, Nat.reduceAdd, Nat.reduceMul, Nat.reduceLeDiff, Nat.reduceLT, Nat.reduceBEq, reduceCtorEq])
    refine LoopR_fn (τ := Nat × List Prom) (fun t => ⟨[.one (.own ⟨0, 1, 0⟩ 0 l.length), ai 0, ai l.length, .one (.clos 58 []), dd, dd, dd, dd, ai i, ai t.1, dd, dd, dd, dd, dd, dd, dd, dd, dd, dd, dd, dd, dd, dd, dd, dd, dd, dd, dd, dd, dd, dd, dd, dd, dd, dd, dd, dd, dd, dd, dd, dd, dd, dd, dd, dd, dd, dd, dd, dd, dd, dd, dd],
      [(0, { next := 1, l := [none, some { e := 0, var := false, fz := false, bor := true, sz := 6, cells := (promisesE t.2).map C.d }] })]⟩)
      (fun t => t.1 ≤ i ∧ t.2.length = l.length ∧ ∀ p ∈ t.2, 0 ≤ p.src ∧ p.src < 7) (fun t => innerP t.2 t.1) (fun t => t.1) (i, l2) (Gh.keep [0] [] ?_ rfl) ⟨Nat.le_refl _, hl2, hs2⟩ ?_
    · simp only [fgt_dead, fgt_same, fgt_nil, Int.natCast_zero]
    intro ⟨j, l3⟩ ⟨hj0, hl3, hs3⟩ hF2 K2 hK2
    simp only at hj0 hl3 hs3 hF2 hK2 ⊢
    repeat (first | with_reducible refine SeqQ_normal _ _ ?_ | with_reducible refine And.imp_right (SeqQ_normal _ _) ?_ | with_reducible refine And.imp_right (And.imp_right (SeqQ_normal _ _)) ?_ | with_reducible refine And.imp_right (And.imp_right (And.imp_right (SeqQ_normal _ _))) ?_ | rw [awp_seq] | simp only [pkS, TyB,  implies_true, forall_const, Nat.reduceSub, Nat.reduceEqDiff, Nat.reduceAdd, Nat.reduceMul, Nat.reduceLeDiff, Nat.reduceLT, Nat.reduceBEq, reduceCtorEq])
    cases j with
    | zero =>
      obtain ⟨p0, rest, rfl⟩ : ∃ p0 rest, l3 = p0 :: rest := by
        cases l3 with
        | nil => simp at hl3; omega
        | cons a b => exact ⟨a, b, rfl⟩
      repeat' (first | with_reducible refine SeqQ_normal _ _ ?_ | rw [awp_seq] | simp only [pkS, TyB, Int.natCast_zero, show decide ((0 : Int) > 0) = false from rfl, show (IntKind.i64.wrap (0 - 1)).toNat = 0 from by decide, List.drop_zero, Nat.zero_mul, List.flatMap_cons, Prom.enc, List.cons_append, List.nil_append, List.map_cons, implies_true, forall_const, Nat.reduceSub, Nat.reduceEqDiff, Nat.reduceAdd, Nat.reduceMul, Nat.reduceLeDiff, Nat.reduceLT, Nat.reduceBEq, reduceCtorEq] | ((try refine CallRG_tt ?_); apply CallR_of; (solve | exact (make1_ok p0 p0) | (refine CallOK.le (make1_ok p0 p0) ?_; simp [argsLe, aLe, csLe, cLe]))) | (apply CallRG_of; (focus (intro _; (solve | exact (make1_ok p0 p0) | (refine CallOK.le (make1_ok p0 p0) ?_; simp [argsLe, aLe, csLe, cLe])))); (focus rfl)) | refine CallRG_no ?_ | refine CondR_of (fun hb => ?_) (fun hb => ?_) | (refine And.intro ?_ ?_; focus ((try with_reducible refine GIm_of ?_); first | (with_reducible rfl) | ((with_reducible first | refine rng_of ?_ | refine ordOK_of ?_ | refine chk_of ?_); kernel_rfl) | (intros; omega) | (intro q p; rw [q, p]; rfl) | (intro q; rw [q]; rfl) | (intro q; simp only [Bool.and_eq_true, decide_eq_true_eq, beq_iff_eq] at q; omega) | (intros; simp_all; done) | (intros; simp [List.range, List.range.loop]; done) | (intros; simp_all [List.range, List.range.loop]; done))) | refine And.intro (fun hg => ?_) (fun hg => ?_) | (with_reducible refine chk_of ?_; kernel_rfl) | fail)
      · cases hb
      · rw [innerP] at hF2
        refine hK _ (i + 1, p0 :: rest) (Gh.keep [0] [] ?_ rfl) ⟨by simp only; omega, hl3, hs3⟩ ?_ (by simp only; omega)
        · simp only [i64_succ hi (by omega), fgt_dead, fgt_same, fgt_nil]
        · rw [show l.length - i = l.length - (i + 1) + 1 by omega, outerP, ← hF2]
    | succ j =>
      have hj : j + 1 < l3.length := by omega
      have hj' : j < l3.length := by omega
      have hg0 : (decide (((j + 1 : Nat) : Int) > 0)) = true := by simp
      have hw : IntKind.i64.wrap (((j + 1 : Nat) : Int) - 1) = (j : Int) := by rw [wrap64 (by omega) (by omega)]; omega
      have hat1 := promC_at hj
      have hat0 := promC_at hj'
      have hs1 := hs3 _ (List.getElem_mem hj)
      have hs0 := hs3 _ (List.getElem_mem hj')
      have hwr : IntKind.i64.wrap (l3[j + 1].src - l3[j].src) = l3[j + 1].src - l3[j].src := wrap64 (by omega) (by omega)
      repeat' (first | with_reducible refine SeqQ_normal _ _ ?_ | rw [awp_seq] | simp only [pkS, TyB, List.length_set, hg0, hw, hat0, hat1, promises_len, List.length_map, Int.toNat_natCast, implies_true, forall_const, Nat.reduceSub, Nat.reduceEqDiff, Nat.reduceAdd, Nat.reduceMul, Nat.reduceLeDiff, Nat.reduceLT, Nat.reduceBEq, reduceCtorEq] | ((try refine CallRG_tt ?_); apply CallR_of; (solve | exact (make1_ok _ _) | (refine CallOK.le (make1_ok _ _) ?_; simp [argsLe, aLe, csLe, cLe]))) | (apply CallRG_of; (focus (intro _; (solve | exact (make1_ok _ _) | (refine CallOK.le (make1_ok _ _) ?_; simp [argsLe, aLe, csLe, cLe])))); (focus rfl)) | refine CallRG_no ?_ | refine CondR_of (fun hb => ?_) (fun hb => ?_) | (refine And.intro ?_ ?_; focus ((try with_reducible refine GIm_of ?_); first | (with_reducible rfl) | ((with_reducible first | refine rng_of ?_ | refine ordOK_of ?_ | refine chk_of ?_); kernel_rfl) | (intros; omega) | (intro q p; rw [q, p]; rfl) | (intro q; rw [q]; rfl) | (intro q; simp only [Bool.and_eq_true, decide_eq_true_eq, beq_iff_eq] at q; omega) | (intros; simp_all; done) | (intros; simp [List.range, List.range.loop]; done) | (intros; simp_all [List.range, List.range.loop]; done))) | refine And.intro (fun hg => ?_) (fun hg => ?_) | (with_reducible refine chk_of ?_; kernel_rfl) | fail)
      · rw [hwr] at hb
        refine hK2 _ (j, swapP l3 j) (Gh.keep [0] [] ?_ ?_) ⟨by simp only; omega, by rw [swapP_len, hl3], fun p hp => hs3 p (swapP_mem hp)⟩ ?_ (by simp)
        · simp only [fgt_dead, fgt_same, fgt_nil]
        · rw [setP, setP]
          simp only [dropAll, swapP, List.getElem?_eq_getElem hj, List.getElem?_eq_getElem hj']
          rfl
        · simp only
          rw [innerP, List.getElem?_eq_getElem hj, List.getElem?_eq_getElem hj']
          simp only
          rw [if_pos (by simp at hb; omega)]
      · rw [hwr] at hb
        rw [innerP, List.getElem?_eq_getElem hj, List.getElem?_eq_getElem hj'] at hF2
        simp only at hF2
        rw [if_neg (by simp at hb; omega)] at hF2
        refine hK _ (i + 1, l3) (Gh.keep [0] [] ?_ rfl) ⟨by simp only; omega, hl3, hs3⟩ ?_ (by simp only; omega)
        · simp only [i64_succ hi (by omega), fgt_dead, fgt_same, fgt_nil]
        · rw [show l.length - i = l.length - (i + 1) + 1 by omega, outerP, ← hF2]
  · have hi : i = l.length ∨ l.length < i := by
      have : ¬ (i : Int) < l.length := by simpa using hge
      omega
    rw [show l.length - i = 0 by omega, outerP] at hF
    repeat (first | with_reducible refine SeqQ_normal _ _ ?_ | with_reducible refine And.imp_right (SeqQ_normal _ _) ?_ | with_reducible refine And.imp_right (And.imp_right (SeqQ_normal _ _)) ?_ | with_reducible refine And.imp_right (And.imp_right (And.imp_right (SeqQ_normal _ _))) ?_ | rw [awp_seq] | simp only [pkS, TyB,  implies_true, forall_const, Nat.reduceSub, Nat.reduceEqDiff, Nat.reduceAdd, Nat.reduceMul, Nat.reduceLeDiff, Nat.reduceLT, Nat.reduceBEq, reduceCtorEq])
    rw [← hF]
    repeat (first | with_reducible refine SeqQ_normal _ _ ?_ | with_reducible refine And.imp_right (SeqQ_normal _ _) ?_ | with_reducible refine And.imp_right (And.imp_right (SeqQ_normal _ _)) ?_ | with_reducible refine And.imp_right (And.imp_right (And.imp_right (SeqQ_normal _ _))) ?_ | rw [awp_seq] | simp only [pkS, TyB, List.contains_nil, Bool.false_eq_true, toDs_map, List.length_map, promises_len, hl2, implies_true, forall_const, Nat.reduceSub, Nat.reduceEqDiff, Nat.reduceAdd, Nat.reduceMul, Nat.reduceLeDiff, Nat.reduceLT, Nat.reduceBEq, reduceCtorEq])
end Go.Proofs.YtgiempmfpmlgnaaGreat

