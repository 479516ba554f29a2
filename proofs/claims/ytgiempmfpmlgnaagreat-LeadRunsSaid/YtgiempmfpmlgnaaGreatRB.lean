/- The document's leader hears. -/
import Derived.Test.YtgiempmfpmlgnaaGreatRA
namespace Go.Proofs.YtgiempmfpmlgnaaGreat
open Go.Pk
set_option maxRecDepth 100000
set_option linter.unusedSimpArgs false
set_option linter.unusedVariables false
def insO (p : Prom) : Bool → List Prom → Option (List Prom)
  | put, [] => some (if put then [] else [p])
  | put, q :: l => if (q.src == p.src) = true then none else if (!put && decide (q.src > p.src)) = true then (insO p true l).map (fun m => p :: q :: m) else (insO p put l).map (fun m => q :: m)
theorem insO_true {p : Prom} : ∀ {l : List Prom}, insO p true l = if (l.any fun q => q.src == p.src) = true then none else some l
  | [] => rfl
  | q :: l => by
    rw [insO, insO_true, List.any_cons]
    cases (q.src == p.src)
    · simp only [Bool.not_true, Bool.false_and, Bool.false_eq_true, if_false, Bool.false_or]
      split <;> simp
    · simp
theorem insO_false {p : Prom} : ∀ {l : List Prom}, insO p false l = if (l.any fun q => q.src == p.src) = true then none else some (insP p l)
  | [] => rfl
  | q :: l => by
    rw [insO, insO_true, insO_false, List.any_cons]
    cases he : (q.src == p.src)
    · simp only [Bool.not_false, Bool.true_and, Bool.false_eq_true, if_false, Bool.false_or]
      have hne : q.src ≠ p.src := by simpa using he
      by_cases hgt : q.src > p.src
      · rw [if_pos (by simpa using hgt)]
        have : insP p (q :: l) = p :: q :: l := by
          unfold insP posP
          rw [List.takeWhile_cons, if_neg (by simp; omega)]
          rfl
        rw [this]
        split <;> simp
      · rw [if_neg (by simpa using hgt)]
        have : insP p (q :: l) = q :: insP p l := by
          unfold insP posP
          rw [List.takeWhile_cons, if_pos (by simp; omega)]
          rfl
        rw [this]
        split <;> simp
    · simp
def hearR (L : RLead) (p : Prom) : RLead × Bool × Int :=
  if (L.phase != 1) = true then (L, false, 11) else
  if (!Prom.may p || decide (p.src ≥ L.n)) = true then (L, false, 1) else
  match insO p false L.ps with
  | none => (L, false, 7)
  | some ps => if decide ((ps.length : Int) < quorumP L.n) = true then ({ L with ps := ps }, false, 0) else
    (⟨L.n, 2, L.view, ps, (makeP ps).1.done + 1, (makeP ps).1.batches, (makeP ps).1.after, (makeP ps).1.later⟩, true, 0)
set_option maxHeartbeats 4000000 in
theorem hearR_ok (L : RLead) (p : Prom) (hp : p.ok) (hps : ∀ q ∈ L.ps, q.ok) (hl : L.ps.length < 2 ^ 30) :
    CallOK Tryz.prog 11 [.obj L.ro, .f (.agg (p.enc.map C.d))] (fun r o => r = [rb (hearR L p).2.1, ri (hearR L p).2.2] ∧ o = [(hearR L p).1.ro]) := by
  refine CallOK.leR ?_
  refine callOK_of TOKTy mixed (T := Ty) (n := 124) Tryz.func11 (c := Tryz.f11.body.getD .skip) rfl Tryz.results11 Tryz.ntmps11 Tryz.call11 ?_
  simp only [Tryz.f11, Option.getD]
  have hpm := promMayR_ok p hp
  cases hph : (L.phase != 1)
  · cases hma : (!Prom.may p || decide (p.src ≥ L.n))
    · obtain ⟨H, hH⟩ : ∃ H, H = hearR L p := ⟨_, rfl⟩
      have hHd : H = match insO p false L.ps with
          | none => (L, false, 7)
          | some ps => if decide ((ps.length : Int) < quorumP L.n) = true then ({ L with ps := ps }, false, 0) else (⟨L.n, 2, L.view, ps, (makeP ps).1.done + 1, (makeP ps).1.batches, (makeP ps).1.after, (makeP ps).1.later⟩, true, 0) := by
        rw [hH, hearR, if_neg (by rw [hph]; simp), if_neg (by rw [hma]; simp)]
      rw [← hH]
      simp only [Bool.or_eq_false_iff, Bool.not_eq_false', decide_eq_false_iff_not] at hma
      have hc1 : decide (p.src ≥ L.n) = false := by simpa using hma.2
      repeat' (first | (with_reducible first | refine SeqQ_normal _ _ ?_ | refine CondR_tt ?_ | refine CondR_ff ?_) | rw [awp_seq] | simp only [pkS, TyB, hph, hma.1, hc1, pkY, Int.reduceEq, bne_self_eq_false, Int.reduceBEq, Int.reduceBNe, implies_true, forall_const, Nat.reduceSub, Nat.reduceEqDiff, Nat.reduceAdd, Nat.reduceMul, Nat.reduceLeDiff, Nat.reduceLT, Nat.reduceBEq, reduceCtorEq] | ((try refine CallRG_tt ?_); apply CallR_of; (solve | exact (hpm) | (refine CallOK.le (hpm) ?_; simp [argsLe, aLe, csLe, cLe]))) | (apply CallRG_of; (focus (intro _; (solve | exact (hpm) | (refine CallOK.le (hpm) ?_; simp [argsLe, aLe, csLe, cLe])))); (focus rfl)) | refine CallRG_no ?_ | refine CondR_of (fun hb => ?_) (fun hb => ?_) | (refine And.intro ?_ ?_; focus ((try with_reducible refine GIm_of ?_); first | (with_reducible rfl) | ((with_reducible first | refine rng_of ?_ | refine ordOK_of ?_ | refine chk_of ?_); kernel_rfl) | (intros; omega) | (intro q p; rw [q, p]; rfl) | (intro q; rw [q]; rfl) | (intro q; simp only [Bool.and_eq_true, decide_eq_true_eq, beq_iff_eq] at q; omega) | (intros; simp [List.range, List.range.loop]; done))) | refine And.intro (fun hg => ?_) (fun hg => ?_) | (with_reducible refine chk_of ?_; kernel_rfl) | fail)
      obtain ⟨O, hO⟩ : ∃ O, O = insO p false L.ps := ⟨_, rfl⟩
      rw [← hO] at hHd
      refine LoopR_fn (τ := Nat × Bool × List Prom) (fun t => ⟨[.one (.ptr ⟨0, 0, 0⟩ 0), dd, dd, .one (.ptr ⟨3, 0, 1⟩ 0), dd, dd, .one (.own ⟨6, 1, 1⟩ 0 t.2.2.length), ab t.2.1, ai t.1, dd, dd, dd, dd, dd, dd, dd, dd, dd, dd, dd, dd, dd, dd, dd, dd, dd, dd, dd, dd, dd, dd, dd, dd, dd, dd, dd, dd, dd, dd, dd, dd, dd, dd, dd, dd, dd, dd, dd, dd, dd, dd, dd, dd, dd, dd, dd, dd, dd, dd, dd, dd, dd, dd, dd, dd, dd, dd, dd, dd, dd, dd, dd, dd, dd, dd, dd, dd, dd, dd, dd, dd, dd, dd, dd, dd, dd, dd, dd, dd, dd, dd, dd, dd, dd, dd, dd, dd, dd, dd, dd, dd, dd, dd, dd, dd, dd, dd, dd, dd, dd, dd, dd, dd, dd, dd, dd, dd, dd, dd, dd, dd, dd, dd, dd],
          [(0, { next := 1, l := [some { e := 0, var := true, fz := false, bor := true, sz := 0, cells := L.ds.map C.d }, none, none, none, none, none, none, none, none, none] }),
           (3, { next := 2, l := [some { e := 1, var := true, fz := false, sz := 0, cells := [di p.src, di p.done, di p.tip.view, di p.tip.slot, di p.time, C.d (.sl p.votes.length (votesE p.votes))] }, none, none, none, none, none, none] }), (6, { next := 2, l := [none, some { e := 1, var := false, fz := false, sz := 6, cells := (promisesE t.2.2).map C.d }] }), (65, ⟨2, []⟩), (66, ⟨2, []⟩), (75, ⟨2, []⟩), (76, ⟨2, []⟩)]⟩)
        (fun t => t.1 ≤ L.ps.length ∧ t.2.2.length = t.1 + (if t.2.1 = true then 1 else 0)) (fun t => (insO p t.2.1 (L.ps.drop t.1)).map (fun m => t.2.2 ++ m)) (fun t => L.ps.length - t.1) (0, false, [])
        ((Gh.nil (i := 6) (s := 6) (sz := 6) rfl).trans (Gh.canon [0, 3, 6] [65, 66, 75, 76] [0] (by simp only [fgc_dead, fgc_dv, fgc_lent, fgc_nil, fgc_ptr, fgc_own, List.set_cons_zero, List.set_cons_succ, and_true, true_and, Int.natCast_zero, Int.cast_ofNat_Int, D.v.injEq, Value.int.injEq]; try (repeat' (first | rfl | omega | with_reducible apply And.intro))) rfl rfl)) ⟨Nat.zero_le _, rfl⟩ ?_
      intro ⟨i, put, acc⟩ ⟨hi0, ha⟩ hF K hK
      simp only [List.drop_zero, List.nil_append, Option.map_id'] at hi0 ha hF hK ⊢
      rw [← hO] at hF
      repeat (first | with_reducible refine SeqQ_normal _ _ ?_ | with_reducible refine And.imp_right (SeqQ_normal _ _) ?_ | with_reducible refine And.imp_right (And.imp_right (SeqQ_normal _ _)) ?_ | with_reducible refine And.imp_right (And.imp_right (And.imp_right (SeqQ_normal _ _))) ?_ | rw [awp_seq] | simp only [pkS, TyB,  implies_true, forall_const, Nat.reduceSub, Nat.reduceEqDiff, Nat.reduceAdd, Nat.reduceMul, Nat.reduceLeDiff, Nat.reduceLT, Nat.reduceBEq, reduceCtorEq])
      refine CondR_of (fun hlt => ?_) (fun hge => ?_)
      · have hi : i < L.ps.length := by simpa using hlt
        have hat := promises_at hi
        simp only [List.cons_append, List.nil_append] at hat
        have hw := i64_succ hi (by omega)
        have hal : acc.length ≤ i + 1 := by rw [ha]; split <;> omega
        have hFs : insO p put (L.ps.drop i) = if (L.ps[i].src == p.src) = true then none else if (!put && decide (L.ps[i].src > p.src)) = true then (insO p true (L.ps.drop (i + 1))).map (fun m => p :: L.ps[i] :: m) else (insO p put (L.ps.drop (i + 1))).map (fun m => L.ps[i] :: m) := by
          rw [List.drop_eq_getElem_cons hi, insO]
        cases he : (L.ps[i].src == p.src)
        · rw [he, if_neg (by simp)] at hFs
          cases hg : (!put && decide (L.ps[i].src > p.src))
          · rw [hg, if_neg (by simp)] at hFs
            repeat' (first | (with_reducible first | refine SeqQ_normal _ _ ?_ | refine CondR_tt ?_ | refine CondR_ff ?_) | rw [awp_seq] | simp only [pkS, TyB, hat, promises_len, he, hg, pkY, Int.reduceEq, bne_self_eq_false, Int.reduceBEq, Int.reduceBNe, implies_true, forall_const, Nat.reduceSub, Nat.reduceEqDiff, Nat.reduceAdd, Nat.reduceMul, Nat.reduceLeDiff, Nat.reduceLT, Nat.reduceBEq, reduceCtorEq] | refine CallRG_no ?_ | refine CondR_of (fun hb => ?_) (fun hb => ?_) | (refine And.intro ?_ ?_; focus ((try with_reducible refine GIm_of ?_); first | (with_reducible rfl) | ((with_reducible first | refine rng_of ?_ | refine ordOK_of ?_ | refine chk_of ?_); kernel_rfl) | (intros; omega) | (intro q p; rw [q, p]; rfl) | (intro q; rw [q]; rfl) | (intro q; simp only [Bool.and_eq_true, decide_eq_true_eq, beq_iff_eq] at q; omega) | (intros; simp [List.range, List.range.loop]; done))) | refine And.intro (fun hg => ?_) (fun hg => ?_) | (with_reducible refine chk_of ?_; kernel_rfl) | fail)
            refine hK _ (i + 1, put, acc ++ [L.ps[i]]) ?_ ?_ ?_ ?_
            · exact Gh.canon [0, 3, 6] [] [0] (by simp only [hw, List.length_append, List.length_singleton, fgc_dead, fgc_dv, fgc_lent, fgc_nil, fgc_ptr, fgc_own, List.set_cons_zero, List.set_cons_succ, and_true, true_and, Int.natCast_zero, Int.cast_ofNat_Int, D.v.injEq, Value.int.injEq]; try (repeat' (first | rfl | omega | with_reducible apply And.intro))) rfl (by simp only [List.length_append, List.length_singleton]; rw [promisesE_snoc]; rfl)
            · exact ⟨hi, by simp only [List.length_append, List.length_singleton]; omega⟩
            · simp only
              rw [hFs, Option.map_map]
              congr 1
              funext m
              simp
            · simp only; omega
          · rw [hg, if_pos rfl] at hFs
            have hput : put = false := by cases put <;> simp_all
            have e : List.take ((acc.length + 1) * 6) (promisesE acc ++ [D.v (.int .i64 p.src), D.v (.int .i64 p.done), D.v (.int .i64 p.tip.view), D.v (.int .i64 p.tip.slot), D.v (.int .i64 p.time), D.sl p.votes.length (votesE p.votes)]) = promisesE (acc ++ [p]) := by
              rw [List.take_of_length_le (by rw [List.length_append, promises_len]; simp only [List.length_cons, List.length_nil]; omega)]; simp [promisesE]
            repeat' (first | (with_reducible first | refine SeqQ_normal _ _ ?_ | refine CondR_tt ?_ | refine CondR_ff ?_) | rw [awp_seq] | simp only [pkS, TyB, hat, promises_len, he, hg, e, pkY, Int.reduceEq, bne_self_eq_false, Int.reduceBEq, Int.reduceBNe, implies_true, forall_const, Nat.reduceSub, Nat.reduceEqDiff, Nat.reduceAdd, Nat.reduceMul, Nat.reduceLeDiff, Nat.reduceLT, Nat.reduceBEq, reduceCtorEq] | refine CallRG_no ?_ | refine CondR_of (fun hb => ?_) (fun hb => ?_) | (refine And.intro ?_ ?_; focus ((try with_reducible refine GIm_of ?_); first | (with_reducible rfl) | ((with_reducible first | refine rng_of ?_ | refine ordOK_of ?_ | refine chk_of ?_); kernel_rfl) | (intros; omega) | (intro q p; rw [q, p]; rfl) | (intro q; rw [q]; rfl) | (intro q; simp only [Bool.and_eq_true, decide_eq_true_eq, beq_iff_eq] at q; omega) | (intros; simp [List.range, List.range.loop]; done))) | refine And.intro (fun hg => ?_) (fun hg => ?_) | (with_reducible refine chk_of ?_; kernel_rfl) | fail)
            refine hK _ (i + 1, true, (acc ++ [p]) ++ [L.ps[i]]) ?_ ?_ ?_ ?_
            · exact Gh.canon [0, 3, 6] [] [0] (by simp only [hw, List.length_append, List.length_singleton, fgc_dead, fgc_dv, fgc_lent, fgc_nil, fgc_ptr, fgc_own, List.set_cons_zero, List.set_cons_succ, and_true, true_and, Int.natCast_zero, Int.cast_ofNat_Int, D.v.injEq, Value.int.injEq]; try (repeat' (first | rfl | omega | with_reducible apply And.intro))) rfl (by simp only [List.length_append, List.length_singleton]; rw [promisesE_snoc (l := acc ++ [p])]; rfl)
            · exact ⟨hi, by simp only [List.length_append, List.length_singleton, if_true]; rw [hput] at ha; simp at ha; omega⟩
            · simp only
              rw [hFs, Option.map_map]
              congr 1
              funext m
              simp
            · simp only; omega
        · rw [he, if_pos rfl] at hFs
          simp only [hFs, Option.map_none] at hF
          rw [← hF] at hHd
          simp only at hHd
          rw [hHd]
          repeat' (first | (with_reducible first | refine SeqQ_normal _ _ ?_ | refine CondR_tt ?_ | refine CondR_ff ?_) | rw [awp_seq] | simp only [pkS, TyB, hat, promises_len, he, pkY, Int.reduceEq, bne_self_eq_false, Int.reduceBEq, Int.reduceBNe, implies_true, forall_const, Nat.reduceSub, Nat.reduceEqDiff, Nat.reduceAdd, Nat.reduceMul, Nat.reduceLeDiff, Nat.reduceLT, Nat.reduceBEq, reduceCtorEq] | refine CallRG_no ?_ | refine CondR_of (fun hb => ?_) (fun hb => ?_) | (refine And.intro ?_ ?_; focus ((try with_reducible refine GIm_of ?_); first | (with_reducible rfl) | ((with_reducible first | refine rng_of ?_ | refine ordOK_of ?_ | refine chk_of ?_); kernel_rfl) | (intros; omega) | (intro q p; rw [q, p]; rfl) | (intro q; rw [q]; rfl) | (intro q; simp only [Bool.and_eq_true, decide_eq_true_eq, beq_iff_eq] at q; omega) | (intros; simp [List.range, List.range.loop]; done))) | refine And.intro (fun hg => ?_) (fun hg => ?_) | (with_reducible refine chk_of ?_; kernel_rfl) | fail)
          first | exact ⟨rfl, rfsB_refl, objsB_refl⟩ | exact ⟨rfsB_refl, objsB_refl⟩
      · have hi : i = L.ps.length := by
          have : ¬ (i : Int) < L.ps.length := by simpa using hge
          omega
        rw [hi, List.drop_length, insO] at hF
        have hpsk : ∀ q ∈ insP p L.ps, q.ok := fun q hq => by
          rcases insP_mem hq with rfl | hq
          · exact hp
          · exact hps q hq
        have hOs : O = some (insP p L.ps) := by
          rw [insO_false] at hO
          split at hO
          · rw [hO] at hF; simp at hF
          · exact hO
        obtain ⟨ps, hpi⟩ : ∃ ps, ps = insP p L.ps := ⟨_, rfl⟩
        rw [hOs, ← hpi] at hF hHd
        simp only at hHd
        have hpl : ps.length ≤ 2 ^ 30 := by rw [hpi, insP_len]; omega
        have hqr := quorumR_ok L.n
        have hacc : (if put = true then acc else acc ++ [p]) = ps := by
          cases put
          · simpa using hF
          · simpa using hF
        have hmk := makePlan_ok ps (by omega) (by rw [hpi]; exact hpsk)
        rw [makeR_eq] at hmk
        have hXd := makeP_done ps
        obtain ⟨X, hX⟩ : ∃ X, X = makeP ps := ⟨_, rfl⟩
        rw [← hX] at hmk hXd hHd
        obtain ⟨⟨hd0, hd1⟩, hb9, hb3⟩ := hXd
        have hw1 : IntKind.i64.wrap (X.1.done + 1) = X.1.done + 1 := wrap64 (by omega) (by omega)
        cases put
        · simp only [Bool.false_eq_true, if_false] at hacc
          have e : promisesE acc ++ [D.v (.int .i64 p.src), D.v (.int .i64 p.done), D.v (.int .i64 p.tip.view), D.v (.int .i64 p.tip.slot), D.v (.int .i64 p.time), D.sl p.votes.length (votesE p.votes)] = promisesE ps := by
            rw [← hacc]; simp [promisesE]
          have el : acc.length + 1 = ps.length := by rw [← hacc]; simp
          repeat' (first | (with_reducible first | refine stop_of 18 ?_ | refine stop_of1 18 ?_ | refine stop_of2 18 ?_) | (with_reducible first | refine SeqQ_normal _ _ ?_ | refine CondR_tt ?_ | refine CondR_ff ?_) | rw [awp_seq] | simp only [pkS, TyB, promises_len, e, el, pkY, Int.reduceEq, bne_self_eq_false, Int.reduceBEq, Int.reduceBNe, implies_true, forall_const, Nat.reduceSub, Nat.reduceEqDiff, Nat.reduceAdd, Nat.reduceMul, Nat.reduceLeDiff, Nat.reduceLT, Nat.reduceBEq, reduceCtorEq] | refine CallRG_no ?_ | refine CondR_of (fun hb => ?_) (fun hb => ?_) | (refine And.intro ?_ ?_; focus ((try with_reducible refine GIm_of ?_); first | (with_reducible rfl) | ((with_reducible first | refine rng_of ?_ | refine ordOK_of ?_ | refine chk_of ?_); kernel_rfl) | (intros; omega) | (intro q p; rw [q, p]; rfl) | (intro q; rw [q]; rfl) | (intro q; simp only [Bool.and_eq_true, decide_eq_true_eq, beq_iff_eq] at q; omega) | (intros; simp [List.range, List.range.loop]; done))) | refine And.intro (fun hg => ?_) (fun hg => ?_) | (with_reducible refine chk_of ?_; kernel_rfl) | fail)
          refine stop_go (SeqQ_gh (Gh.sealV 6 (x := .own ⟨6, 1, 2⟩ 0 ps.length) (d := .sl ps.length (promisesE ps)) rfl (by simp only [pkS, TyB, pkX, implies_true, forall_const, Nat.reduceSub, Nat.reduceEqDiff, Nat.reduceAdd, Nat.reduceMul, Nat.reduceLeDiff, Nat.reduceLT, Nat.reduceBEq, reduceCtorEq]; rfl)) ?_)
          cases hq : decide ((ps.length : Int) < quorumP L.n)
          · rw [hHd, if_neg (by simp [hq])]
            repeat' (first | (with_reducible first | refine stop_of 27 ?_ | refine stop_of1 27 ?_ | refine stop_of2 27 ?_) | (with_reducible first | refine SeqQ_normal _ _ ?_ | refine CondR_tt ?_ | refine CondR_ff ?_) | rw [awp_seq] | simp only [pkS, TyB, hq, hw1, Plan.rf, pkY, Int.reduceEq, bne_self_eq_false, Int.reduceBEq, Int.reduceBNe, implies_true, forall_const, Nat.reduceSub, Nat.reduceEqDiff, Nat.reduceAdd, Nat.reduceMul, Nat.reduceLeDiff, Nat.reduceLT, Nat.reduceBEq, reduceCtorEq] | ((try refine CallRG_tt ?_); apply CallR_of; (solve | exact (hqr) | exact (hmk) | (refine CallOK.le (hqr) ?_; simp [argsLe, aLe, csLe, cLe]) | (refine CallOK.le (hmk) ?_; simp [argsLe, aLe, csLe, cLe]))) | (apply CallRG_of; (focus (intro _; (solve | exact (hqr) | exact (hmk) | (refine CallOK.le (hqr) ?_; simp [argsLe, aLe, csLe, cLe]) | (refine CallOK.le (hmk) ?_; simp [argsLe, aLe, csLe, cLe])))); (focus rfl)) | refine CallRG_no ?_ | refine CondR_of (fun hb => ?_) (fun hb => ?_) | (refine And.intro ?_ ?_; focus ((try with_reducible refine GIm_of ?_); first | (with_reducible rfl) | ((with_reducible first | refine rng_of ?_ | refine ordOK_of ?_ | refine chk_of ?_); kernel_rfl) | (intros; omega) | (intro q p; rw [q, p]; rfl) | (intro q; rw [q]; rfl) | (intro q; simp only [Bool.and_eq_true, decide_eq_true_eq, beq_iff_eq] at q; omega) | (intros; simp [List.range, List.range.loop]; done))) | refine And.intro (fun hg => ?_) (fun hg => ?_) | (with_reducible refine chk_of ?_; kernel_rfl) | fail)
            refine stop_go (SeqQ_gh (Gh.sealF 0 5 (.own ⟨0, 6, 4⟩ 0 X.1.batches.length) ?_) ?_)
            · simp only [pkS, TyB, sealFOK, pkX, implies_true, forall_const, Nat.reduceSub, Nat.reduceEqDiff, Nat.reduceAdd, Nat.reduceMul, Nat.reduceLeDiff, Nat.reduceLT, Nat.reduceBEq, reduceCtorEq]
            simp only [pkS, TyB, sealFR, pkX, implies_true, forall_const, Nat.reduceSub, Nat.reduceEqDiff, Nat.reduceAdd, Nat.reduceMul, Nat.reduceLeDiff, Nat.reduceLT, Nat.reduceBEq, reduceCtorEq]
            repeat' (first | (with_reducible first | refine SeqQ_normal _ _ ?_ | refine CondR_tt ?_ | refine CondR_ff ?_) | rw [awp_seq] | simp only [pkS, TyB, batches_take, pkY, Int.reduceEq, bne_self_eq_false, Int.reduceBEq, Int.reduceBNe, implies_true, forall_const, Nat.reduceSub, Nat.reduceEqDiff, Nat.reduceAdd, Nat.reduceMul, Nat.reduceLeDiff, Nat.reduceLT, Nat.reduceBEq, reduceCtorEq] | refine CallRG_no ?_ | refine CondR_of (fun hb => ?_) (fun hb => ?_) | (refine And.intro ?_ ?_; focus ((try with_reducible refine GIm_of ?_); first | (with_reducible rfl) | ((with_reducible first | refine rng_of ?_ | refine ordOK_of ?_ | refine chk_of ?_); kernel_rfl) | (intros; omega) | (intro q p; rw [q, p]; rfl) | (intro q; rw [q]; rfl) | (intro q; simp only [Bool.and_eq_true, decide_eq_true_eq, beq_iff_eq] at q; omega) | (intros; simp [List.range, List.range.loop]; done))) | refine And.intro (fun hg => ?_) (fun hg => ?_) | (with_reducible refine chk_of ?_; kernel_rfl) | fail)
            first | exact ⟨rfl, rfsB_refl, objsB_refl⟩ | exact ⟨rfsB_refl, objsB_refl⟩
          · rw [hHd, if_pos hq]
            repeat' (first | (with_reducible first | refine SeqQ_normal _ _ ?_ | refine CondR_tt ?_ | refine CondR_ff ?_) | rw [awp_seq] | simp only [pkS, TyB, hq, pkY, Int.reduceEq, bne_self_eq_false, Int.reduceBEq, Int.reduceBNe, implies_true, forall_const, Nat.reduceSub, Nat.reduceEqDiff, Nat.reduceAdd, Nat.reduceMul, Nat.reduceLeDiff, Nat.reduceLT, Nat.reduceBEq, reduceCtorEq] | ((try refine CallRG_tt ?_); apply CallR_of; (solve | exact (hqr) | (refine CallOK.le (hqr) ?_; simp [argsLe, aLe, csLe, cLe]))) | (apply CallRG_of; (focus (intro _; (solve | exact (hqr) | (refine CallOK.le (hqr) ?_; simp [argsLe, aLe, csLe, cLe])))); (focus rfl)) | refine CallRG_no ?_ | refine CondR_of (fun hb => ?_) (fun hb => ?_) | (refine And.intro ?_ ?_; focus ((try with_reducible refine GIm_of ?_); first | (with_reducible rfl) | ((with_reducible first | refine rng_of ?_ | refine ordOK_of ?_ | refine chk_of ?_); kernel_rfl) | (intros; omega) | (intro q p; rw [q, p]; rfl) | (intro q; rw [q]; rfl) | (intro q; simp only [Bool.and_eq_true, decide_eq_true_eq, beq_iff_eq] at q; omega) | (intros; simp [List.range, List.range.loop]; done))) | refine And.intro (fun hg => ?_) (fun hg => ?_) | (with_reducible refine chk_of ?_; kernel_rfl) | fail)
            first | exact ⟨rfl, rfsB_refl, objsB_refl⟩ | exact ⟨rfsB_refl, objsB_refl⟩
        · simp only [if_true] at hacc
          rw [hacc]
          repeat' (first | (with_reducible first | refine stop_of 18 ?_ | refine stop_of1 18 ?_ | refine stop_of2 18 ?_) | (with_reducible first | refine SeqQ_normal _ _ ?_ | refine CondR_tt ?_ | refine CondR_ff ?_) | rw [awp_seq] | simp only [pkS, TyB, promises_len, pkY, Int.reduceEq, bne_self_eq_false, Int.reduceBEq, Int.reduceBNe, implies_true, forall_const, Nat.reduceSub, Nat.reduceEqDiff, Nat.reduceAdd, Nat.reduceMul, Nat.reduceLeDiff, Nat.reduceLT, Nat.reduceBEq, reduceCtorEq] | refine CallRG_no ?_ | refine CondR_of (fun hb => ?_) (fun hb => ?_) | (refine And.intro ?_ ?_; focus ((try with_reducible refine GIm_of ?_); first | (with_reducible rfl) | ((with_reducible first | refine rng_of ?_ | refine ordOK_of ?_ | refine chk_of ?_); kernel_rfl) | (intros; omega) | (intro q p; rw [q, p]; rfl) | (intro q; rw [q]; rfl) | (intro q; simp only [Bool.and_eq_true, decide_eq_true_eq, beq_iff_eq] at q; omega) | (intros; simp [List.range, List.range.loop]; done))) | refine And.intro (fun hg => ?_) (fun hg => ?_) | (with_reducible refine chk_of ?_; kernel_rfl) | fail)
          refine stop_go (SeqQ_gh (Gh.sealV 6 (x := .own ⟨6, 1, 1⟩ 0 ps.length) (d := .sl ps.length (promisesE ps)) rfl (by simp only [pkS, TyB, pkX, implies_true, forall_const, Nat.reduceSub, Nat.reduceEqDiff, Nat.reduceAdd, Nat.reduceMul, Nat.reduceLeDiff, Nat.reduceLT, Nat.reduceBEq, reduceCtorEq]; rfl)) ?_)
          cases hq : decide ((ps.length : Int) < quorumP L.n)
          · rw [hHd, if_neg (by simp [hq])]
            repeat' (first | (with_reducible first | refine stop_of 27 ?_ | refine stop_of1 27 ?_ | refine stop_of2 27 ?_) | (with_reducible first | refine SeqQ_normal _ _ ?_ | refine CondR_tt ?_ | refine CondR_ff ?_) | rw [awp_seq] | simp only [pkS, TyB, hq, hw1, Plan.rf, pkY, Int.reduceEq, bne_self_eq_false, Int.reduceBEq, Int.reduceBNe, implies_true, forall_const, Nat.reduceSub, Nat.reduceEqDiff, Nat.reduceAdd, Nat.reduceMul, Nat.reduceLeDiff, Nat.reduceLT, Nat.reduceBEq, reduceCtorEq] | ((try refine CallRG_tt ?_); apply CallR_of; (solve | exact (hqr) | exact (hmk) | (refine CallOK.le (hqr) ?_; simp [argsLe, aLe, csLe, cLe]) | (refine CallOK.le (hmk) ?_; simp [argsLe, aLe, csLe, cLe]))) | (apply CallRG_of; (focus (intro _; (solve | exact (hqr) | exact (hmk) | (refine CallOK.le (hqr) ?_; simp [argsLe, aLe, csLe, cLe]) | (refine CallOK.le (hmk) ?_; simp [argsLe, aLe, csLe, cLe])))); (focus rfl)) | refine CallRG_no ?_ | refine CondR_of (fun hb => ?_) (fun hb => ?_) | (refine And.intro ?_ ?_; focus ((try with_reducible refine GIm_of ?_); first | (with_reducible rfl) | ((with_reducible first | refine rng_of ?_ | refine ordOK_of ?_ | refine chk_of ?_); kernel_rfl) | (intros; omega) | (intro q p; rw [q, p]; rfl) | (intro q; rw [q]; rfl) | (intro q; simp only [Bool.and_eq_true, decide_eq_true_eq, beq_iff_eq] at q; omega) | (intros; simp [List.range, List.range.loop]; done))) | refine And.intro (fun hg => ?_) (fun hg => ?_) | (with_reducible refine chk_of ?_; kernel_rfl) | fail)
            refine stop_go (SeqQ_gh (Gh.sealF 0 5 (.own ⟨0, 6, 4⟩ 0 X.1.batches.length) ?_) ?_)
            · simp only [pkS, TyB, sealFOK, pkX, implies_true, forall_const, Nat.reduceSub, Nat.reduceEqDiff, Nat.reduceAdd, Nat.reduceMul, Nat.reduceLeDiff, Nat.reduceLT, Nat.reduceBEq, reduceCtorEq]
            simp only [pkS, TyB, sealFR, pkX, implies_true, forall_const, Nat.reduceSub, Nat.reduceEqDiff, Nat.reduceAdd, Nat.reduceMul, Nat.reduceLeDiff, Nat.reduceLT, Nat.reduceBEq, reduceCtorEq]
            repeat' (first | (with_reducible first | refine SeqQ_normal _ _ ?_ | refine CondR_tt ?_ | refine CondR_ff ?_) | rw [awp_seq] | simp only [pkS, TyB, batches_take, pkY, Int.reduceEq, bne_self_eq_false, Int.reduceBEq, Int.reduceBNe, implies_true, forall_const, Nat.reduceSub, Nat.reduceEqDiff, Nat.reduceAdd, Nat.reduceMul, Nat.reduceLeDiff, Nat.reduceLT, Nat.reduceBEq, reduceCtorEq] | refine CallRG_no ?_ | refine CondR_of (fun hb => ?_) (fun hb => ?_) | (refine And.intro ?_ ?_; focus ((try with_reducible refine GIm_of ?_); first | (with_reducible rfl) | ((with_reducible first | refine rng_of ?_ | refine ordOK_of ?_ | refine chk_of ?_); kernel_rfl) | (intros; omega) | (intro q p; rw [q, p]; rfl) | (intro q; rw [q]; rfl) | (intro q; simp only [Bool.and_eq_true, decide_eq_true_eq, beq_iff_eq] at q; omega) | (intros; simp [List.range, List.range.loop]; done))) | refine And.intro (fun hg => ?_) (fun hg => ?_) | (with_reducible refine chk_of ?_; kernel_rfl) | fail)
            first | exact ⟨rfl, rfsB_refl, objsB_refl⟩ | exact ⟨rfsB_refl, objsB_refl⟩
          · rw [hHd, if_pos hq]
            repeat' (first | (with_reducible first | refine SeqQ_normal _ _ ?_ | refine CondR_tt ?_ | refine CondR_ff ?_) | rw [awp_seq] | simp only [pkS, TyB, hq, pkY, Int.reduceEq, bne_self_eq_false, Int.reduceBEq, Int.reduceBNe, implies_true, forall_const, Nat.reduceSub, Nat.reduceEqDiff, Nat.reduceAdd, Nat.reduceMul, Nat.reduceLeDiff, Nat.reduceLT, Nat.reduceBEq, reduceCtorEq] | ((try refine CallRG_tt ?_); apply CallR_of; (solve | exact (hqr) | (refine CallOK.le (hqr) ?_; simp [argsLe, aLe, csLe, cLe]))) | (apply CallRG_of; (focus (intro _; (solve | exact (hqr) | (refine CallOK.le (hqr) ?_; simp [argsLe, aLe, csLe, cLe])))); (focus rfl)) | refine CallRG_no ?_ | refine CondR_of (fun hb => ?_) (fun hb => ?_) | (refine And.intro ?_ ?_; focus ((try with_reducible refine GIm_of ?_); first | (with_reducible rfl) | ((with_reducible first | refine rng_of ?_ | refine ordOK_of ?_ | refine chk_of ?_); kernel_rfl) | (intros; omega) | (intro q p; rw [q, p]; rfl) | (intro q; rw [q]; rfl) | (intro q; simp only [Bool.and_eq_true, decide_eq_true_eq, beq_iff_eq] at q; omega) | (intros; simp [List.range, List.range.loop]; done))) | refine And.intro (fun hg => ?_) (fun hg => ?_) | (with_reducible refine chk_of ?_; kernel_rfl) | fail)
            first | exact ⟨rfl, rfsB_refl, objsB_refl⟩ | exact ⟨rfsB_refl, objsB_refl⟩
    · have hne : hearR L p = (L, false, 1) := by rw [hearR, if_neg (by rw [hph]; simp), if_pos hma]
      rw [hne]
      repeat' (first | (with_reducible first | refine SeqQ_normal _ _ ?_ | refine CondR_tt ?_ | refine CondR_ff ?_) | rw [awp_seq] | simp only [pkS, TyB, hph, hma, pkY, Int.reduceEq, bne_self_eq_false, Int.reduceBEq, Int.reduceBNe, implies_true, forall_const, Nat.reduceSub, Nat.reduceEqDiff, Nat.reduceAdd, Nat.reduceMul, Nat.reduceLeDiff, Nat.reduceLT, Nat.reduceBEq, reduceCtorEq] | ((try refine CallRG_tt ?_); apply CallR_of; (solve | exact (hpm) | (refine CallOK.le (hpm) ?_; simp [argsLe, aLe, csLe, cLe]))) | (apply CallRG_of; (focus (intro _; (solve | exact (hpm) | (refine CallOK.le (hpm) ?_; simp [argsLe, aLe, csLe, cLe])))); (focus rfl)) | refine CallRG_no ?_ | refine CondR_of (fun hb => ?_) (fun hb => ?_) | (refine And.intro ?_ ?_; focus ((try with_reducible refine GIm_of ?_); first | (with_reducible rfl) | ((with_reducible first | refine rng_of ?_ | refine ordOK_of ?_ | refine chk_of ?_); kernel_rfl) | (intros; omega) | (intro q p; rw [q, p]; rfl) | (intro q; rw [q]; rfl) | (intro q; simp only [Bool.and_eq_true, decide_eq_true_eq, beq_iff_eq] at q; omega) | (intros; simp [List.range, List.range.loop]; done))) | refine And.intro (fun hg => ?_) (fun hg => ?_) | (with_reducible refine chk_of ?_; kernel_rfl) | fail)
      first | exact ⟨rfl, rfsB_refl, objsB_refl⟩ | exact ⟨rfsB_refl, objsB_refl⟩
  · have hne : hearR L p = (L, false, 11) := by rw [hearR, if_pos hph]
    rw [hne]
    repeat' (first | (with_reducible first | refine SeqQ_normal _ _ ?_ | refine CondR_tt ?_ | refine CondR_ff ?_) | rw [awp_seq] | simp only [pkS, TyB, hph, pkY, Int.reduceEq, bne_self_eq_false, Int.reduceBEq, Int.reduceBNe, implies_true, forall_const, Nat.reduceSub, Nat.reduceEqDiff, Nat.reduceAdd, Nat.reduceMul, Nat.reduceLeDiff, Nat.reduceLT, Nat.reduceBEq, reduceCtorEq] | refine CallRG_no ?_ | refine CondR_of (fun hb => ?_) (fun hb => ?_) | (refine And.intro ?_ ?_; focus ((try with_reducible refine GIm_of ?_); first | (with_reducible rfl) | ((with_reducible first | refine rng_of ?_ | refine ordOK_of ?_ | refine chk_of ?_); kernel_rfl) | (intros; omega) | (intro q p; rw [q, p]; rfl) | (intro q; rw [q]; rfl) | (intro q; simp only [Bool.and_eq_true, decide_eq_true_eq, beq_iff_eq] at q; omega) | (intros; simp [List.range, List.range.loop]; done))) | refine And.intro (fun hg => ?_) (fun hg => ?_) | (with_reducible refine chk_of ?_; kernel_rfl) | fail)
    first | exact ⟨rfl, rfsB_refl, objsB_refl⟩ | exact ⟨rfsB_refl, objsB_refl⟩
end Go.Proofs.YtgiempmfpmlgnaaGreat

