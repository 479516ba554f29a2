/- The leader: what is heard. -/
import Derived.Test.YtgiempmfpmlgnaaGreatLD
namespace Go.Proofs.YtgiempmfpmlgnaaGreat
open Go.Pk
set_option maxRecDepth 100000
set_option linter.unusedSimpArgs false
set_option linter.unusedVariables false
theorem hearC_ok (q : Prom) (s : Int) (h : 0 ≤ q.src ∧ q.src < 7 ∧ 0 ≤ s ∧ s < 7) : CallOK Tryz.prog 37 [.f (.agg (q.enc.map C.d)), .f (ai s)] (fun r o => r = [ri (q.src - s)] ∧ o = []) := by
  refine callOK_of TOKTy mixed (T := Ty) (n := 9) Tryz.func37 (c := Tryz.f37.body.getD .skip) rfl Tryz.results37 Tryz.ntmps37 Tryz.call37 ?_
  simp only [Tryz.f37, Option.getD]
  have hw : IntKind.i64.wrap (q.src - s) = q.src - s := wrap64 (by omega) (by omega)
  repeat' (first | (with_reducible first | refine SeqQ_normal _ _ ?_ | refine CondR_tt ?_ | refine CondR_ff ?_) | rw [awp_seq] | simp only [pkS, TyB, hw, pkY, Int.reduceEq, bne_self_eq_false, Int.reduceBEq, Int.reduceBNe, implies_true, forall_const, Nat.reduceSub, Nat.reduceEqDiff, Nat.reduceAdd, Nat.reduceMul, Nat.reduceLeDiff, Nat.reduceLT, Nat.reduceBEq, reduceCtorEq] | refine CallRG_no ?_ | refine CondR_of (fun hb => ?_) (fun hb => ?_) | (refine And.intro ?_ ?_; focus ((try with_reducible refine GIm_of ?_); first | (with_reducible rfl) | ((with_reducible first | refine rng_of ?_ | refine ordOK_of ?_ | refine chk_of ?_); kernel_rfl) | (intros; omega) | (intro q p; rw [q, p]; rfl) | (intro q; rw [q]; rfl) | (intro q; simp only [Bool.and_eq_true, decide_eq_true_eq, beq_iff_eq] at q; omega) | (intros; simp_all; done) | (intros; simp [List.range, List.range.loop]; done) | (intros; simp_all [List.range, List.range.loop]; done))) | refine And.intro (fun hg => ?_) (fun hg => ?_) | (with_reducible refine chk_of ?_; kernel_rfl) | fail)
/-- Where a promise comes to stand. -/
def posP (s : Int) (l : List Prom) : Nat := (l.takeWhile fun q => decide (q.src < s)).length
def insP (p : Prom) (l : List Prom) : List Prom := l.take (posP p.src l) ++ p :: l.drop (posP p.src l)
def voteOf (view first : Int) : Nat → List Batch → List Vote
  | _, [] => []
  | i, b :: bs => ⟨first + i, view, b⟩ :: voteOf view first (i + 1) bs
def hearP (L : LeadS) (p : Prom) : LeadS × Bool × Int :=
  if (L.phase != 1) = true then (L, false, 11) else
  if (!Prom.may p || decide (p.src ≥ L.n)) = true then (L, false, 1) else
  if (L.heard.any fun q => q.src == p.src) = true then (L, false, 7) else
  if decide (((insP p L.heard).length : Int) < quorumP L.n) = true then ({ L with heard := insP p L.heard }, false, 0) else
  (⟨L.n, 2, L.view, insP p L.heard, voteOf L.view ((makeP (insP p L.heard)).1.done + 1) 0 (makeP (insP p L.heard)).1.batches,
     (makeP (insP p L.heard)).1.done + 1 + (makeP (insP p L.heard)).1.batches.length, (makeP (insP p L.heard)).1.after, (makeP (insP p L.heard)).1.later⟩, true, 0)
/-- What was heard: by rising sources, all of which may be. -/
structure HeardOK (l : List Prom) : Prop where
  len : l.length ≤ 7
  may : ∀ q ∈ l, Prom.may q = true ∧ q.ok
  srt : l.Pairwise fun p q => p.src < q.src
theorem posP_le (s : Int) (l : List Prom) : posP s l ≤ l.length := (List.takeWhile_prefix _).length_le
theorem posP_lt {s : Int} {l : List Prom} {j : Nat} (hj : j < l.length) (h : j < posP s l) : l[j].src < s := by
  have h1 : l.takeWhile (fun q => decide (q.src < s)) <+: l := List.takeWhile_prefix _
  have h2 := List.IsPrefix.getElem h1 h
  have h3 : ∀ (l : List Prom) (q : Prom), q ∈ l.takeWhile (fun q => decide (q.src < s)) → q.src < s := by
    intro l
    induction l with
    | nil => intro q hq; simp at hq
    | cons x l ih =>
      intro q hq
      rw [List.takeWhile_cons] at hq
      split at hq
      · rename_i hx
        rcases List.mem_cons.1 hq with rfl | hq
        · simpa using hx
        · exact ih q hq
      · simp at hq
  rw [← h2]; exact h3 _ _ (List.getElem_mem h)
theorem posP_ge {s : Int} : ∀ {l : List Prom} {j : Nat} (hj : j < l.length), (l.Pairwise fun p q => p.src < q.src) → posP s l ≤ j → s ≤ l[j].src
  | [], j, hj, _, _ => by simp at hj
  | q :: l, j, hj, hs, h => by
    have hs' := List.pairwise_cons.1 hs
    unfold posP at h
    rw [List.takeWhile_cons] at h
    by_cases hq : q.src < s
    · rw [if_pos (by simpa using hq)] at h
      cases j with
      | zero => simp at h
      | succ j => simpa using posP_ge (l := l) (j := j) (by simpa using hj) hs'.2 (by unfold posP; simpa using h)
    · cases j with
      | zero => simp; omega
      | succ j =>
        have hj' : j < l.length := by simpa using hj
        have := hs'.1 l[j] (List.getElem_mem hj')
        simp only [List.getElem_cons_succ]
        omega
theorem any_pos {s : Int} {l : List Prom} (hs : l.Pairwise fun p q => p.src < q.src) : (l.any fun q => q.src == s) = ((l[posP s l]?.map fun q => q.src - s == 0).getD false) := by
  rw [Bool.eq_iff_iff]
  constructor
  · intro h
    obtain ⟨q, hq, he⟩ := List.any_eq_true.1 h
    obtain ⟨j, hj, rfl⟩ := List.getElem_of_mem hq
    simp at he
    have h1 : ¬ j < posP s l := fun h => by have := posP_lt hj h; omega
    have h2 : posP s l = j := by
      rcases Nat.lt_or_ge (posP s l) j with h | h
      · have h3 := posP_ge (s := s) (j := posP s l) (by omega) hs (Nat.le_refl _)
        have h4 := List.pairwise_iff_getElem.1 hs (posP s l) j (by omega) hj h
        omega
      · omega
    rw [h2, List.getElem?_eq_getElem hj]
    simp; omega
  · intro h
    cases hq : l[posP s l]? with
    | none => rw [hq] at h; simp at h
    | some q =>
      rw [hq] at h
      simp at h
      exact List.any_eq_true.2 ⟨q, List.mem_of_getElem? hq, by simp; omega⟩
theorem insP_len (p : Prom) (l : List Prom) : (insP p l).length = l.length + 1 := by
  have := posP_le p.src l
  simp [insP]; omega
theorem insP_mem {p q : Prom} {l : List Prom} (h : q ∈ insP p l) : q = p ∨ q ∈ l := by
  unfold insP at h
  rcases List.mem_append.1 h with h | h
  · exact .inr (List.mem_of_mem_take h)
  · rcases List.mem_cons.1 h with rfl | h
    · exact .inl rfl
    · exact .inr (List.mem_of_mem_drop h)
theorem insP_enc (p : Prom) (l : List Prom) : (promisesE l).take (posP p.src l * 6) ++ (p.enc ++ (promisesE l).drop (posP p.src l * 6)) = promisesE (insP p l) := by
  rw [enc_takeN Prom.enc 6 (fun _ => rfl) (posP_le _ _), enc_dropN Prom.enc 6 (fun _ => rfl) (posP_le _ _)]
  simp [insP, promisesE]
theorem makeP_done (l : List Prom) : (0 ≤ (makeP l).1.done ∧ (makeP l).1.done ≤ 2305843009213693952) ∧ (makeP l).1.batches.length ≤ 9 ∧ ∀ b ∈ (makeP l).1.batches, b.reqs.length ≤ 3 := by
  unfold makeP
  split
  · simp [noPlan]
  split
  · rename_i h
    have hm : ∀ p ∈ sortedP l, MayP p := fun p hp => (told_of h).1 p (outerP_mem hp)
    refine ⟨?_, planP_small hm⟩
    cases hs : sortedP l with
    | nil => simp [planP, noPlan]
    | cons p q =>
      rw [hs] at hm
      simp only [planP]
      exact baseP_of (fun b => 0 ≤ b.1 ∧ b.1 ≤ 2305843009213693952) (hm p (by simp)).done fun p' hp' => (hm p' (by simp [hp'])).done
  · simp [noPlan]
set_option maxHeartbeats 4000000 in
theorem hear_ok (L : LeadS) (p : Prom) (hp : p.ok) (hh : HeardOK L.heard) (hs : L.phase = 1 → L.slots = []) (hn : 0 ≤ L.n ∧ L.n ≤ 7) :
    CallOK Tryz.prog 10 [.obj L.ro, .f (.agg p.lent)] (fun r o => r = [rb (hearP L p).2.1, ri (hearP L p).2.2] ∧ o = [(hearP L p).1.ro]) := by
  refine CallOK.leR ?_
  refine callOK_of TOKTy mixed (T := Ty) (n := 128) Tryz.func10 (c := Tryz.f10.body.getD .skip) rfl Tryz.results10 Tryz.ntmps10 Tryz.call10 ?_
  simp only [Tryz.f10, Option.getD]
  have hpm := promMay_ok p hp
  cases hph : (L.phase != 1)
  · cases hma : (!Prom.may p || decide (p.src ≥ L.n))
    · simp only [Bool.or_eq_false_iff, Bool.not_eq_false', decide_eq_false_iff_not] at hma
      have hmp := may_of hma.1
      have hbs := bsearch_prom L.heard (by have := hh.len; omega) p.src (fun q => q.src - p.src) 37 (posP p.src L.heard) (posP_le _ _)
        (fun j hj h => by have := posP_lt hj h; omega) (fun j hj h => by have := posP_ge hj hh.srt h; omega)
        (fun q hq => hearC_ok q p.src (by have h1 := (may_of (hh.may q hq).1).src; have h2 := hmp.src; omega))
      rw [← any_pos hh.srt] at hbs
      have hc1 : decide (p.src ≥ L.n) = false := by simpa using hma.2
      cases han : (L.heard.any fun q => q.src == p.src)
      · have hkp := kept_ok p (by have := hmp.len; omega) (fun v hv => by have := batchMay_few (hmp.votes v hv).2.2.2.2; omega)
        rw [han] at hbs
        have hsl : L.slots = [] := hs (by simpa using hph)
        have hlen := insP_len p L.heard
        have henc := insP_enc p L.heard
        have hqc : ∀ x, CallOK Tryz.prog 31 [.f (ai x)] (fun r o => r = [ri (quorumP x)] ∧ o = []) := quorum_ok
        repeat' (first | (with_reducible first | refine SeqQ_normal _ _ ?_ | refine CondR_tt ?_ | refine CondR_ff ?_) | rw [awp_seq] | simp only [pkS, TyB, hph, hma.1, hc1, hsl, pkY, Int.reduceEq, bne_self_eq_false, Int.reduceBEq, Int.reduceBNe, implies_true, forall_const, Nat.reduceSub, Nat.reduceEqDiff, Nat.reduceAdd, Nat.reduceMul, Nat.reduceLeDiff, Nat.reduceLT, Nat.reduceBEq, reduceCtorEq] | ((try refine CallRG_tt ?_); apply CallR_of; (solve | exact (hpm) | exact (hbs) | exact (hkp) | (refine CallOK.le (hpm) ?_; simp [argsLe, aLe, csLe, cLe]) | (refine CallOK.le (hbs) ?_; simp [argsLe, aLe, csLe, cLe]) | (refine CallOK.le (hkp) ?_; simp [argsLe, aLe, csLe, cLe]))) | (apply CallRG_of; (focus (intro _; (solve | exact (hpm) | exact (hbs) | exact (hkp) | (refine CallOK.le (hpm) ?_; simp [argsLe, aLe, csLe, cLe]) | (refine CallOK.le (hbs) ?_; simp [argsLe, aLe, csLe, cLe]) | (refine CallOK.le (hkp) ?_; simp [argsLe, aLe, csLe, cLe])))); (focus rfl)) | refine CallRG_no ?_ | refine CondR_of (fun hb => ?_) (fun hb => ?_) | (refine And.intro ?_ ?_; focus ((try with_reducible refine GIm_of ?_); first | (with_reducible rfl) | ((with_reducible first | refine rng_of ?_ | refine ordOK_of ?_ | refine chk_of ?_); kernel_rfl) | (intros; omega) | (intro q p; rw [q, p]; rfl) | (intro q; rw [q]; rfl) | (intro q; simp only [Bool.and_eq_true, decide_eq_true_eq, beq_iff_eq] at q; omega) | (intros; simp_all; done) | (intros; simp [List.range, List.range.loop]; done) | (intros; simp_all [List.range, List.range.loop]; done))) | refine And.intro (fun hg => ?_) (fun hg => ?_) | (with_reducible refine chk_of ?_; kernel_rfl) | fail)
        refine CallM_of (mv := ?mv1) (lent := ?le1) 0 ?ha1 (insProm_ok L.heard.length (posP p.src L.heard) (promisesE L.heard) p.enc promises_len rfl (posP_le _ _) (by have := hh.len; omega)) ?hb1 ?hc1
        case ha1 => (try simp only [pkS, TyB, toDs_map, implies_true, forall_const, Nat.reduceSub, Nat.reduceEqDiff, Nat.reduceAdd, Nat.reduceMul, Nat.reduceLeDiff, Nat.reduceLT, Nat.reduceBEq, reduceCtorEq]); exact rfl
        case hb1 => (try simp only [pkS, TyB, scM, implies_true, forall_const, Nat.reduceSub, Nat.reduceEqDiff, Nat.reduceAdd, Nat.reduceMul, Nat.reduceLeDiff, Nat.reduceLT, Nat.reduceBEq, reduceCtorEq]); repeat' (first | rfl | trivial | omega | with_reducible refine And.intro ?_ ?_)
        show aops _ _ _ _ _ _ _ _
        have hlen' : L.heard.length + 1 = (insP p L.heard).length := hlen.symm
        have henc' : List.take (posP p.src L.heard * 6) (promisesE L.heard) ++ iD p.src :: iD p.done :: iD p.tip.view :: iD p.tip.slot :: iD p.time :: D.sl p.votes.length (votesE p.votes) :: List.drop (posP p.src L.heard * 6) (promisesE L.heard) = promisesE (insP p L.heard) := henc
        obtain ⟨ps, hps⟩ : ∃ ps, ps = insP p L.heard := ⟨_, rfl⟩
        rw [← hps] at hlen' henc' 
        cases hqq : decide ((ps.length : Int) < quorumP L.n)
        · have hmk := make_ok ps (by rw [← hlen']; have := hh.len; omega) (fun q hq => by
            rw [hps] at hq
            rcases insP_mem hq with rfl | hq
            · exact hp
            · exact (hh.may q hq).2)
          have hXd := makeP_done ps
          obtain ⟨X, hX⟩ : ∃ X, X = makeP ps := ⟨_, rfl⟩
          rw [← hX] at hXd
          obtain ⟨⟨hd0, hd1⟩, hb9, hb3⟩ := hXd
          rw [← hX] at hmk
          have hne : hearP L p = (⟨L.n, 2, L.view, ps, voteOf L.view (X.1.done + 1) 0 X.1.batches, X.1.done + 1 + X.1.batches.length, X.1.after, X.1.later⟩, true, 0) := by
            rw [hearP, if_neg (by rw [hph]; simp), if_neg (by rw [hma.1, hc1]; simp), if_neg (by rw [han]; simp), if_neg (by rw [← hps, hqq]; simp), ← hps, ← hX]
          rw [hne]
          repeat' (first | (with_reducible first | refine SeqQ_normal _ _ ?_ | refine CondR_tt ?_ | refine CondR_ff ?_) | rw [awp_seq] | simp only [pkS, TyB, henc', hlen', hqq, Plan.rf, pkY, Int.reduceEq, bne_self_eq_false, Int.reduceBEq, Int.reduceBNe, implies_true, forall_const, Nat.reduceSub, Nat.reduceEqDiff, Nat.reduceAdd, Nat.reduceMul, Nat.reduceLeDiff, Nat.reduceLT, Nat.reduceBEq, reduceCtorEq] | ((try refine CallRG_tt ?_); apply CallR_of; (solve | exact (hqc L.n) | exact (hmk) | (refine CallOK.le (hqc L.n) ?_; simp [argsLe, aLe, csLe, cLe]) | (refine CallOK.le (hmk) ?_; simp [argsLe, aLe, csLe, cLe]))) | (apply CallRG_of; (focus (intro _; (solve | exact (hqc L.n) | exact (hmk) | (refine CallOK.le (hqc L.n) ?_; simp [argsLe, aLe, csLe, cLe]) | (refine CallOK.le (hmk) ?_; simp [argsLe, aLe, csLe, cLe])))); (focus rfl)) | refine CallRG_no ?_ | refine CondR_of (fun hb => ?_) (fun hb => ?_) | (refine And.intro ?_ ?_; focus ((try with_reducible refine GIm_of ?_); first | (with_reducible rfl) | ((with_reducible first | refine rng_of ?_ | refine ordOK_of ?_ | refine chk_of ?_); kernel_rfl) | (intros; omega) | (intro q p; rw [q, p]; rfl) | (intro q; rw [q]; rfl) | (intro q; simp only [Bool.and_eq_true, decide_eq_true_eq, beq_iff_eq] at q; omega) | (intros; simp_all; done) | (intros; simp [List.range, List.range.loop]; done) | (intros; simp_all [List.range, List.range.loop]; done))) | refine And.intro (fun hg => ?_) (fun hg => ?_) | (with_reducible refine chk_of ?_; kernel_rfl) | fail)
          refine LoopR_fn (τ := Nat × List Vote × Nat × Nat) (fun t => ⟨[.one (.ptr ⟨0, 0, 0⟩ 0), dd, dd, dd, dd, dd, dd, dd, .one (.ptr ⟨8, 0, 1⟩ 0), dd, dd, dd, dd, dd, dd, dd, dd, dd, dd, dd, dd, dd, dd, dd, dd, dd, dd, dd, dd, dd, dd, dd, dd, dd, dd, dd, dd, dd, dd, dd, dd, dd, dd, dd, dd, dd, dd, dd, dd, dd, dd, dd, dd, dd, dd, dd, dd, dd, dd, dd, dd, dd, dd, dd, dd, dd, dd, dd, dd, dd, dd, dd, dd, dd, dd, dd, dd, dd, dd, dd, .one (.own ⟨8, 5, 1⟩ 0 X.1.batches.length), ai X.1.batches.length, ai t.1, dd, dd, dd, dd, dd, dd, dd, dd, dd, dd, dd, dd, dd, dd, dd, dd, dd, dd, dd, dd, dd, dd, dd, dd, dd, dd, dd, dd, dd, dd, dd, dd, dd, dd, dd, dd, dd, dd, dd, dd, dd, dd, dd, dd, dd],
              [(0, { next := t.2.2.2, l := [some { e := 0, var := true, fz := false, bor := true, sz := 0, cells := [di L.n, di 2, di L.view, .own ⟨0, 4, 1⟩ 0 ps.length, .own ⟨0, 5, t.2.2.1⟩ 0 t.2.1.length, di L.next, di L.tip.view, di L.tip.slot, di L.time] }, none, none, none,
                 some { e := 1, var := false, fz := false, bor := true, sz := 6, cells := (promisesE ps).map C.d }, some { e := t.2.2.1, var := false, fz := false, bor := true, sz := 8, cells := (votesE t.2.1).map C.d }, none, none, none, none] }), (3, ⟨2, []⟩), (52, ⟨2, []⟩), (53, ⟨2, []⟩), (54, ⟨2, []⟩), (73, ⟨2, []⟩),
               (8, { next := 2, l := [some { e := 1, var := true, fz := false, sz := 0, cells := [di X.1.done, di X.1.tip.view, di X.1.tip.slot, di X.1.time, .own ⟨8, 5, 1⟩ 0 X.1.batches.length, di X.1.after.view, di X.1.after.slot, di X.1.later] }, none, none, none, none, some { e := 1, var := false, fz := false, sz := 6, cells := (batchesE X.1.batches).map C.d }, none, none, none] }), (11, ⟨2, []⟩), (103, ⟨2, []⟩)]⟩)
            (fun t => t.1 ≤ X.1.batches.length ∧ t.2.1.length = t.1) (fun t => t.2.1 ++ voteOf L.view (X.1.done + 1) t.1 (X.1.batches.drop t.1)) (fun t => X.1.batches.length - t.1) (0, [], 0, 3)
            (Gh.canon [0, 8] [11, 103] [0] (by simp only [fgc_dead, fgc_dv, fgc_lent, fgc_nil, fgc_ptr, fgc_own, List.set_cons_zero, List.set_cons_succ, and_true, true_and, Int.natCast_zero, Int.cast_ofNat_Int, D.v.injEq, Value.int.injEq]; try (repeat' (first | rfl | omega | with_reducible apply And.intro))) rfl rfl) ⟨Nat.zero_le _, rfl⟩ ?_
          intro ⟨i, acc, e, nx⟩ ⟨hi0, ha⟩ hF K hK
          simp only [List.drop_zero, List.nil_append] at hi0 ha hF hK ⊢
          repeat (first | with_reducible refine SeqQ_normal _ _ ?_ | with_reducible refine And.imp_right (SeqQ_normal _ _) ?_ | with_reducible refine And.imp_right (And.imp_right (SeqQ_normal _ _)) ?_ | with_reducible refine And.imp_right (And.imp_right (And.imp_right (SeqQ_normal _ _))) ?_ | rw [awp_seq] | simp only [pkS, TyB,  implies_true, forall_const, Nat.reduceSub, Nat.reduceEqDiff, Nat.reduceAdd, Nat.reduceMul, Nat.reduceLeDiff, Nat.reduceLT, Nat.reduceBEq, reduceCtorEq])
          refine CondR_of (fun hlt => ?_) (fun hge => ?_)
          · have hi : i < X.1.batches.length := by simpa using hlt
            have hat := batches_at hi
            simp only [List.cons_append, List.nil_append] at hat
            have hw := i64_succ hi (by omega)
            have hw1 : IntKind.i64.wrap (X.1.done + 1) = X.1.done + 1 := wrap64 (by omega) (by omega)
            have hw2 : IntKind.i64.wrap (X.1.done + 1 + (i : Int)) = X.1.done + 1 + (i : Int) := wrap64 (by omega) (by omega)
            repeat' (first | (with_reducible first | refine SeqQ_normal _ _ ?_ | refine CondR_tt ?_ | refine CondR_ff ?_) | rw [awp_seq] | simp only [pkS, TyB, hat, batches_len, hw1, hw2, ← List.map_drop, List.map_cons, pkY, Int.reduceEq, bne_self_eq_false, Int.reduceBEq, Int.reduceBNe, implies_true, forall_const, Nat.reduceSub, Nat.reduceEqDiff, Nat.reduceAdd, Nat.reduceMul, Nat.reduceLeDiff, Nat.reduceLT, Nat.reduceBEq, reduceCtorEq] | refine CallRG_no ?_ | refine CondR_of (fun hb => ?_) (fun hb => ?_) | (refine And.intro ?_ ?_; focus ((try with_reducible refine GIm_of ?_); first | (with_reducible rfl) | ((with_reducible first | refine rng_of ?_ | refine ordOK_of ?_ | refine chk_of ?_); kernel_rfl) | (intros; omega) | (intro q p; rw [q, p]; rfl) | (intro q; rw [q]; rfl) | (intro q; simp only [Bool.and_eq_true, decide_eq_true_eq, beq_iff_eq] at q; omega) | (intros; simp_all; done) | (intros; simp [List.range, List.range.loop]; done) | (intros; simp_all [List.range, List.range.loop]; done))) | refine And.intro (fun hg => ?_) (fun hg => ?_) | (with_reducible refine chk_of ?_; kernel_rfl) | fail)
            refine hK _ (i + 1, acc ++ [⟨X.1.done + 1 + (i : Int), L.view, X.1.batches[i]⟩], nx, nx + 1)
              (Gh.canon [0, 8] [] [0] (by simp only [hw, List.length_append, List.length_singleton, fgc_dead, fgc_dv, fgc_lent, fgc_nil, fgc_ptr, fgc_own, List.set_cons_zero, List.set_cons_succ, and_true, true_and, Int.natCast_zero, Int.cast_ofNat_Int, D.v.injEq, Value.int.injEq]; try (repeat' (first | rfl | omega | with_reducible apply And.intro))) rfl (by simp only [List.length_append, List.length_singleton]; rw [votesE_snoc]; rfl)) ⟨hi, by simp only [List.length_append, List.length_singleton]; omega⟩ ?_ (by simp only; omega)
            simp only
            rw [List.drop_eq_getElem_cons hi, voteOf, List.append_assoc, List.singleton_append]
          · have hi : i = X.1.batches.length := by
              have : ¬ (i : Int) < X.1.batches.length := by simpa using hge
              omega
            have hw1 : IntKind.i64.wrap (X.1.done + 1) = X.1.done + 1 := wrap64 (by omega) (by omega)
            have hw2 : IntKind.i64.wrap (X.1.done + 1 + (X.1.batches.length : Int)) = X.1.done + 1 + (X.1.batches.length : Int) := wrap64 (by omega) (by omega)
            rw [hi, List.drop_length, voteOf, List.append_nil] at hF
            rw [← hF]
            repeat' (first | (with_reducible first | refine SeqQ_normal _ _ ?_ | refine CondR_tt ?_ | refine CondR_ff ?_) | rw [awp_seq] | simp only [pkS, TyB, hw1, hw2, pkY, Int.reduceEq, bne_self_eq_false, Int.reduceBEq, Int.reduceBNe, implies_true, forall_const, Nat.reduceSub, Nat.reduceEqDiff, Nat.reduceAdd, Nat.reduceMul, Nat.reduceLeDiff, Nat.reduceLT, Nat.reduceBEq, reduceCtorEq] | refine CallRG_no ?_ | refine CondR_of (fun hb => ?_) (fun hb => ?_) | (refine And.intro ?_ ?_; focus ((try with_reducible refine GIm_of ?_); first | (with_reducible rfl) | ((with_reducible first | refine rng_of ?_ | refine ordOK_of ?_ | refine chk_of ?_); kernel_rfl) | (intros; omega) | (intro q p; rw [q, p]; rfl) | (intro q; rw [q]; rfl) | (intro q; simp only [Bool.and_eq_true, decide_eq_true_eq, beq_iff_eq] at q; omega) | (intros; simp_all; done) | (intros; simp [List.range, List.range.loop]; done) | (intros; simp_all [List.range, List.range.loop]; done))) | refine And.intro (fun hg => ?_) (fun hg => ?_) | (with_reducible refine chk_of ?_; kernel_rfl) | fail)
            exact ⟨rfl, rfsB_refl, objsB_refl⟩
        · have hne : hearP L p = ({ L with heard := ps }, false, 0) := by
            rw [hearP, if_neg (by rw [hph]; simp), if_neg (by rw [hma.1, hc1]; simp), if_neg (by rw [han]; simp), if_pos (by rw [← hps]; exact hqq), hps]
          rw [hne]
          repeat' (first | (with_reducible first | refine SeqQ_normal _ _ ?_ | refine CondR_tt ?_ | refine CondR_ff ?_) | rw [awp_seq] | simp only [pkS, TyB, henc', hlen', hqq, pkY, Int.reduceEq, bne_self_eq_false, Int.reduceBEq, Int.reduceBNe, implies_true, forall_const, Nat.reduceSub, Nat.reduceEqDiff, Nat.reduceAdd, Nat.reduceMul, Nat.reduceLeDiff, Nat.reduceLT, Nat.reduceBEq, reduceCtorEq] | ((try refine CallRG_tt ?_); apply CallR_of; (solve | exact (hqc L.n) | (refine CallOK.le (hqc L.n) ?_; simp [argsLe, aLe, csLe, cLe]))) | (apply CallRG_of; (focus (intro _; (solve | exact (hqc L.n) | (refine CallOK.le (hqc L.n) ?_; simp [argsLe, aLe, csLe, cLe])))); (focus rfl)) | refine CallRG_no ?_ | refine CondR_of (fun hb => ?_) (fun hb => ?_) | (refine And.intro ?_ ?_; focus ((try with_reducible refine GIm_of ?_); first | (with_reducible rfl) | ((with_reducible first | refine rng_of ?_ | refine ordOK_of ?_ | refine chk_of ?_); kernel_rfl) | (intros; omega) | (intro q p; rw [q, p]; rfl) | (intro q; rw [q]; rfl) | (intro q; simp only [Bool.and_eq_true, decide_eq_true_eq, beq_iff_eq] at q; omega) | (intros; simp_all; done) | (intros; simp [List.range, List.range.loop]; done) | (intros; simp_all [List.range, List.range.loop]; done))) | refine And.intro (fun hg => ?_) (fun hg => ?_) | (with_reducible refine chk_of ?_; kernel_rfl) | fail)
          refine ⟨rfl, rfsB_refl, ?_⟩
          simp [objsB, rosB, roB, hsl]
      · rw [han] at hbs
        have hne : hearP L p = (L, false, 7) := by
          rw [hearP, if_neg (by rw [hph]; simp), if_neg (by rw [hma.1, hc1]; simp), if_pos han]
        rw [hne]
        repeat' (first | (with_reducible first | refine SeqQ_normal _ _ ?_ | refine CondR_tt ?_ | refine CondR_ff ?_) | rw [awp_seq] | simp only [pkS, TyB, hph, hma.1, hc1, pkY, Int.reduceEq, bne_self_eq_false, Int.reduceBEq, Int.reduceBNe, implies_true, forall_const, Nat.reduceSub, Nat.reduceEqDiff, Nat.reduceAdd, Nat.reduceMul, Nat.reduceLeDiff, Nat.reduceLT, Nat.reduceBEq, reduceCtorEq] | ((try refine CallRG_tt ?_); apply CallR_of; (solve | exact (hpm) | exact (hbs) | (refine CallOK.le (hpm) ?_; simp [argsLe, aLe, csLe, cLe]) | (refine CallOK.le (hbs) ?_; simp [argsLe, aLe, csLe, cLe]))) | (apply CallRG_of; (focus (intro _; (solve | exact (hpm) | exact (hbs) | (refine CallOK.le (hpm) ?_; simp [argsLe, aLe, csLe, cLe]) | (refine CallOK.le (hbs) ?_; simp [argsLe, aLe, csLe, cLe])))); (focus rfl)) | refine CallRG_no ?_ | refine CondR_of (fun hb => ?_) (fun hb => ?_) | (refine And.intro ?_ ?_; focus ((try with_reducible refine GIm_of ?_); first | (with_reducible rfl) | ((with_reducible first | refine rng_of ?_ | refine ordOK_of ?_ | refine chk_of ?_); kernel_rfl) | (intros; omega) | (intro q p; rw [q, p]; rfl) | (intro q; rw [q]; rfl) | (intro q; simp only [Bool.and_eq_true, decide_eq_true_eq, beq_iff_eq] at q; omega) | (intros; simp_all; done) | (intros; simp [List.range, List.range.loop]; done) | (intros; simp_all [List.range, List.range.loop]; done))) | refine And.intro (fun hg => ?_) (fun hg => ?_) | (with_reducible refine chk_of ?_; kernel_rfl) | fail)
        exact ⟨rfl, rfsB_refl, objsB_refl⟩
    · have hne : hearP L p = (L, false, 1) := by rw [hearP, if_neg (by rw [hph]; simp), if_pos hma]
      rw [hne]
      repeat' (first | (with_reducible first | refine SeqQ_normal _ _ ?_ | refine CondR_tt ?_ | refine CondR_ff ?_) | rw [awp_seq] | simp only [pkS, TyB, hph, hma, pkY, Int.reduceEq, bne_self_eq_false, Int.reduceBEq, Int.reduceBNe, implies_true, forall_const, Nat.reduceSub, Nat.reduceEqDiff, Nat.reduceAdd, Nat.reduceMul, Nat.reduceLeDiff, Nat.reduceLT, Nat.reduceBEq, reduceCtorEq] | ((try refine CallRG_tt ?_); apply CallR_of; (solve | exact (hpm) | (refine CallOK.le (hpm) ?_; simp [argsLe, aLe, csLe, cLe]))) | (apply CallRG_of; (focus (intro _; (solve | exact (hpm) | (refine CallOK.le (hpm) ?_; simp [argsLe, aLe, csLe, cLe])))); (focus rfl)) | refine CallRG_no ?_ | refine CondR_of (fun hb => ?_) (fun hb => ?_) | (refine And.intro ?_ ?_; focus ((try with_reducible refine GIm_of ?_); first | (with_reducible rfl) | ((with_reducible first | refine rng_of ?_ | refine ordOK_of ?_ | refine chk_of ?_); kernel_rfl) | (intros; omega) | (intro q p; rw [q, p]; rfl) | (intro q; rw [q]; rfl) | (intro q; simp only [Bool.and_eq_true, decide_eq_true_eq, beq_iff_eq] at q; omega) | (intros; simp_all; done) | (intros; simp [List.range, List.range.loop]; done) | (intros; simp_all [List.range, List.range.loop]; done))) | refine And.intro (fun hg => ?_) (fun hg => ?_) | (with_reducible refine chk_of ?_; kernel_rfl) | fail)
      exact ⟨rfl, rfsB_refl, objsB_refl⟩
  · have hne : hearP L p = (L, false, 11) := by rw [hearP, if_pos hph]
    rw [hne]
    repeat' (first | (with_reducible first | refine SeqQ_normal _ _ ?_ | refine CondR_tt ?_ | refine CondR_ff ?_) | rw [awp_seq] | simp only [pkS, TyB, hph, pkY, Int.reduceEq, bne_self_eq_false, Int.reduceBEq, Int.reduceBNe, implies_true, forall_const, Nat.reduceSub, Nat.reduceEqDiff, Nat.reduceAdd, Nat.reduceMul, Nat.reduceLeDiff, Nat.reduceLT, Nat.reduceBEq, reduceCtorEq] | refine CallRG_no ?_ | refine CondR_of (fun hb => ?_) (fun hb => ?_) | (refine And.intro ?_ ?_; focus ((try with_reducible refine GIm_of ?_); first | (with_reducible rfl) | ((with_reducible first | refine rng_of ?_ | refine ordOK_of ?_ | refine chk_of ?_); kernel_rfl) | (intros; omega) | (intro q p; rw [q, p]; rfl) | (intro q; rw [q]; rfl) | (intro q; simp only [Bool.and_eq_true, decide_eq_true_eq, beq_iff_eq] at q; omega) | (intros; simp_all; done) | (intros; simp [List.range, List.range.loop]; done) | (intros; simp_all [List.range, List.range.loop]; done))) | refine And.intro (fun hg => ?_) (fun hg => ?_) | (with_reducible refine chk_of ?_; kernel_rfl) | fail)
    exact ⟨rfl, rfsB_refl, objsB_refl⟩
end Go.Proofs.YtgiempmfpmlgnaaGreat

