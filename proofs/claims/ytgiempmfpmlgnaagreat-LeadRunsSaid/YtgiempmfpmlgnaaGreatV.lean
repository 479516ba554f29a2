/- PlanMade: the promises that numbers make, as one list. -/
import Derived.Test.YtgiempmfpmlgnaaGreatU
namespace Go.Proofs.YtgiempmfpmlgnaaGreat
open Go.Pk
set_option maxRecDepth 100000
set_option linter.unusedSimpArgs false
set_option linter.unusedVariables false
/-- A vote by numbers. -/
structure NVote where
  slot : Int
  ballot : Int
  ns : List Int
abbrev NVote.enc (v : NVote) : List D := [uD v.slot, uD v.ballot, .sl v.ns.length (bytesE v.ns)]
def NVote.ok (v : NVote) : Prop := u8 v.slot ∧ u8 v.ballot ∧ v.ns.length < 2 ^ 60 ∧ ∀ x ∈ v.ns, u8 x
abbrev nvotesE (l : List NVote) : List D := l.flatMap NVote.enc
theorem nvotes_at {l : List NVote} {i : Nat} (hi : i < l.length) : (nvotesE l).drop (i * 3) = l[i].enc ++ (nvotesE (l.drop (i + 1))) := drop_enc _ 3 l i hi fun _ => rfl
theorem nvotes_len {l : List NVote} : (nvotesE l).length = l.length * 3 := len_enc _ 3 (fun _ => rfl) l
/-- A promise by numbers. -/
structure NTold where
  done : Int
  view : Int
  slot : Int
  time : Int
  votes : List NVote
abbrev NTold.enc (v : NTold) : List D := [uD v.done, uD v.view, uD v.slot, uD v.time, .sl v.votes.length (nvotesE v.votes)]
def NTold.ok (v : NTold) : Prop := u8 v.done ∧ u8 v.view ∧ u8 v.slot ∧ u8 v.time ∧ v.votes.length < 2 ^ 60 ∧ ∀ x ∈ v.votes, x.ok
abbrev ntoldE (l : List NTold) : List D := l.flatMap NTold.enc
def m8 (x : Int) (m : Nat) : Int := ((x.toNat % m : Nat) : Int)
theorem m8_lt {x : Int} {m : Nat} (hm : 0 < m) : 0 ≤ m8 x m ∧ m8 x m < m := by unfold m8; have := Nat.mod_lt x.toNat hm; omega
def voteAt (s : Nat) (v : NVote) : Bool := m8 v.slot 9 + 1 == (s : Int)
def votesB (done : Int) (l : List NVote) (acc : List Vote) : Nat → Nat → List Vote
  | 0, _ => acc
  | n + 1, s => votesB done l (match l.find? (voteAt s) with | some v => acc ++ [⟨done + s, m8 v.ballot 9, batchB v.ns⟩] | none => acc) n (s + 1)
def promB (i : Int) (t : NTold) : Prom := ⟨i, m8 t.done 8, ⟨m8 t.view 4, m8 t.slot 6⟩, t.time, votesB (m8 t.done 8) t.votes [] 9 1⟩
abbrev promRf (p : Prom) : RF := .agg [.d (iD p.src), .d (iD p.done), .d (iD p.tip.view), .d (iD p.tip.slot), .d (iD p.time), .own 8 p.votes.length (votesE p.votes) false]
set_option maxHeartbeats 1000000 in
theorem promise_okI (i : Int) (t : NTold) (ht : t.ok) : CallOK Tryz.prog 9 [.f (ai i), .f (ru t.done), .f (ru t.view), .f (ru t.slot), .f (ru t.time), .f (al t.votes.length (nvotesE t.votes))]
    (fun r o => r = [promRf (promB i t)] ∧ o = []) := by
  refine CallOK.nil ?_
  refine callOK_of TOKTy mixed (T := Ty) (n := 74) Tryz.func9 (c := Tryz.f9.body.getD .skip) rfl Tryz.results9 Tryz.ntmps9 Tryz.call9 ?_
  simp only [Tryz.f9, Option.getD]
  obtain ⟨hd, hv, hs, hti, hl, hvs⟩ := ht
  have w0 := u8w hd
  have w1 := u8w hv
  have w2 := u8w hs
  have w3 := u8w hti
  have e8 : t.done.tmod 8 = m8 t.done 8 := tmod_nat hd (m := 8) (by decide)
  have e4 : t.view.tmod 4 = m8 t.view 4 := tmod_nat hv (m := 4) (by decide)
  have e6 : t.slot.tmod 6 = m8 t.slot 6 := tmod_nat hs (m := 6) (by decide)
  repeat' (first | (with_reducible first | refine SeqQ_normal _ _ ?_ | refine CondR_tt ?_ | refine CondR_ff ?_) | rw [awp_seq] | simp only [pkS, TyB, w0, w1, w2, w3, e8, e4, e6, pkX, Int.reduceEq, implies_true, forall_const, Nat.reduceSub, Nat.reduceEqDiff, Nat.reduceAdd, Nat.reduceMul, Nat.reduceLeDiff, Nat.reduceLT, Nat.reduceBEq, reduceCtorEq] | refine CallRG_no ?_ | refine CondR_of (fun hb => ?_) (fun hb => ?_) | (refine And.intro ?_ ?_; focus ((try with_reducible refine GIm_of ?_); first | (with_reducible rfl) | ((with_reducible first | refine rng_of ?_ | refine ordOK_of ?_ | refine chk_of ?_); kernel_rfl) | (intros; omega) | (intro q p; rw [q, p]; rfl) | (intro q; rw [q]; rfl) | (intro q; simp only [Bool.and_eq_true, decide_eq_true_eq, beq_iff_eq] at q; omega) | (intros; simp_all; done) | (intros; simp [List.range, List.range.loop]; done) | (intros; simp_all [List.range, List.range.loop]; done))) | refine And.intro (fun hg => ?_) (fun hg => ?_) | (with_reducible refine chk_of ?_; kernel_rfl) | fail)
  have hD := m8_lt (x := t.done) (m := 8) (by decide)
  obtain ⟨dn, hDD⟩ : ∃ x, x = m8 t.done 8 := ⟨_, rfl⟩
  have hB : promB i t = ⟨i, dn, ⟨m8 t.view 4, m8 t.slot 6⟩, t.time, votesB dn t.votes [] 9 1⟩ := by rw [hDD]; rfl
  rw [hB]
  rw [← hDD] at hD ⊢
  generalize m8 t.view 4 = TV
  generalize m8 t.slot 6 = TS
  generalize t.time = TM
  generalize t.votes = l at *
  clear hB hDD e8 e4 e6 w0 w1 w2 w3 hd hv hs hti

  refine LoopR_fn (τ := Nat × Nat × List Vote) (fun t => ⟨[dd, dd, dd, dd, dd, al l.length (nvotesE l), dd, dd, dd, dd, dd, dd, .one (.ptr ⟨12, 0, 1⟩ 0), .one (.ptr ⟨13, 0, 1⟩ 0), ai t.2.1, dd, dd, dd, dd, dd, dd, dd, dd, dd, dd, dd, dd, dd, dd, dd, dd, dd, dd, dd, dd, dd, dd, dd, dd, dd, dd, dd, dd, dd, dd, dd, dd, dd, dd, dd, dd, dd, dd, dd, dd, dd, dd, dd, dd, dd, dd, dd, dd, dd, dd, dd, dd, dd, dd, dd, dd, dd, dd, dd],
      [(12, { next := 2, l := [some { e := 1, var := true, fz := false, sz := 0, cells := [di 0, di 0, di 0, di 0, di 0, .d (.v (.slice none 0 0))] }, none, none, none, none, none, none] }), (13, { next := 2, l := [some { e := 1, var := true, fz := false, sz := 0, cells := [di i, di dn, di TV, di TS, di TM, .own ⟨13, 6, 1⟩ 0 t.2.2.length] }, none, none, none, none, none, some { e := 1, var := false, fz := false, sz := 8, cells := (votesE t.2.2).map C.d }] }), (68, ⟨2, []⟩), (70, ⟨2, []⟩), (71, ⟨2, []⟩)]⟩)
    (fun t => t.1 + t.2.1 = 10 ∧ t.2.2.length < t.2.1) (fun t => votesB dn l t.2.2 t.1 t.2.1) (fun t => t.1) (9, 1, [])
    ((Gh.nilF 13 5 8 rfl).trans (Gh.canon [12, 13] [68, 70, 71] [] (by simp only [fgc_dead, fgc_dv, fgc_lent, fgc_nil, fgc_ptr, fgc_own, List.set_cons_zero, List.set_cons_succ, and_true, true_and, Int.natCast_zero, Int.cast_ofNat_Int, D.v.injEq, Value.int.injEq]; try (repeat' (first | rfl | omega | with_reducible apply And.intro))) rfl rfl)) ⟨rfl, Nat.zero_lt_one⟩ ?_
  intro ⟨n, s, acc⟩ ⟨hn, ha⟩ hF K hK
  simp only at hn ha hF hK ⊢
  have hws : IntKind.i64.wrap ((s : Int) + 1) = ((s + 1 : Nat) : Int) := by rw [wrap64 (by omega) (by omega)]; rfl
  repeat (first | with_reducible refine SeqQ_normal _ _ ?_ | with_reducible refine And.imp_right (SeqQ_normal _ _) ?_ | with_reducible refine And.imp_right (And.imp_right (SeqQ_normal _ _)) ?_ | with_reducible refine And.imp_right (And.imp_right (And.imp_right (SeqQ_normal _ _))) ?_ | rw [awp_seq] | simp only [pkS, TyB,  implies_true, forall_const, Nat.reduceSub, Nat.reduceEqDiff, Nat.reduceAdd, Nat.reduceMul, Nat.reduceLeDiff, Nat.reduceLT, Nat.reduceBEq, reduceCtorEq])
  refine CondR_of (fun hlt => ?_) (fun hge => ?_)
  · have hs9 : s ≤ 9 := by
      have : (s : Int) ≤ 9 := by simpa using hlt
      omega
    obtain ⟨m, rfl⟩ : ∃ m, n = m + 1 := ⟨n - 1, by omega⟩
    have hf : votesB dn l acc (m + 1) s = votesB dn l (match l.find? (voteAt s) with | some v => acc ++ [⟨dn + s, m8 v.ballot 9, batchB v.ns⟩] | none => acc) m (s + 1) := rfl
    have hwD : IntKind.i64.wrap (dn + s) = dn + s := wrap64 (by omega) (by omega)
    repeat (first | with_reducible refine SeqQ_normal _ _ ?_ | with_reducible refine And.imp_right (SeqQ_normal _ _) ?_ | with_reducible refine And.imp_right (And.imp_right (SeqQ_normal _ _)) ?_ | with_reducible refine And.imp_right (And.imp_right (And.imp_right (SeqQ_normal _ _))) ?_ | rw [awp_seq] | simp only [pkS, TyB,  implies_true, forall_const, Nat.reduceSub, Nat.reduceEqDiff, Nat.reduceAdd, Nat.reduceMul, Nat.reduceLeDiff, Nat.reduceLT, Nat.reduceBEq, reduceCtorEq])
    refine LoopR_fn (τ := Nat) (fun k => ⟨[dd, dd, dd, dd, dd, al l.length (nvotesE l), dd, dd, dd, dd, dd, dd, .one (.ptr ⟨12, 0, 1⟩ 0), .one (.ptr ⟨13, 0, 1⟩ 0), ai s, ai k, dd, dd, dd, dd, dd, dd, dd, dd, dd, dd, dd, dd, dd, dd, dd, dd, dd, dd, dd, dd, dd, dd, dd, dd, dd, dd, dd, dd, dd, dd, dd, dd, dd, dd, dd, dd, dd, dd, dd, dd, dd, dd, dd, dd, dd, dd, dd, dd, dd, dd, dd, dd, dd, dd, dd, dd, dd, dd],
        [(12, { next := 2, l := [some { e := 1, var := true, fz := false, sz := 0, cells := [di 0, di 0, di 0, di 0, di 0, .d (.v (.slice none 0 0))] }, none, none, none, none, none, none] }), (13, { next := 2, l := [some { e := 1, var := true, fz := false, sz := 0, cells := [di i, di dn, di TV, di TS, di TM, .own ⟨13, 6, 1⟩ 0 acc.length] }, none, none, none, none, none, some { e := 1, var := false, fz := false, sz := 8, cells := (votesE acc).map C.d }] }), (68, ⟨2, []⟩), (70, ⟨2, []⟩), (71, ⟨2, []⟩)]⟩)
      (fun k => k ≤ l.length) (fun k => (l.drop k).find? (voteAt s)) (fun k => l.length - k) 0
      (Gh.canon [12, 13] [] [] (by simp only [fgc_dead, fgc_dv, fgc_lent, fgc_nil, fgc_ptr, fgc_own, List.set_cons_zero, List.set_cons_succ, and_true, true_and, Int.natCast_zero, Int.cast_ofNat_Int, D.v.injEq, Value.int.injEq]; try (repeat' (first | rfl | omega | with_reducible apply And.intro))) rfl rfl) (Nat.zero_le _) ?_
    intro k hk0 hF2 K2 hK2
    simp only [List.drop_zero] at hk0 hF2 hK2 ⊢
    repeat (first | with_reducible refine SeqQ_normal _ _ ?_ | with_reducible refine And.imp_right (SeqQ_normal _ _) ?_ | with_reducible refine And.imp_right (And.imp_right (SeqQ_normal _ _)) ?_ | with_reducible refine And.imp_right (And.imp_right (And.imp_right (SeqQ_normal _ _))) ?_ | rw [awp_seq] | simp only [pkS, TyB,  implies_true, forall_const, Nat.reduceSub, Nat.reduceEqDiff, Nat.reduceAdd, Nat.reduceMul, Nat.reduceLeDiff, Nat.reduceLT, Nat.reduceBEq, reduceCtorEq])
    refine CondR_of (fun hlt2 => ?_) (fun hge2 => ?_)
    · have hk : k < l.length := by simpa using hlt2
      have hat := nvotes_at hk
      simp only [List.cons_append, List.nil_append] at hat
      obtain ⟨v1, v2, v3, v4⟩ := hvs _ (List.getElem_mem hk)
      have x1 := u8w v1
      have x2 := u8w v2
      have y1 : l[k].slot.tmod 9 = m8 l[k].slot 9 := tmod_nat v1 (m := 9) (by decide)
      have y2 : l[k].ballot.tmod 9 = m8 l[k].ballot 9 := tmod_nat v2 (m := 9) (by decide)
      have z1 := m8_lt (x := l[k].slot) (m := 9) (by decide)
      have hw1 : IntKind.i64.wrap (m8 l[k].slot 9 + 1) = m8 l[k].slot 9 + 1 := wrap64 (by omega) (by omega)
      rw [List.drop_eq_getElem_cons hk, List.find?_cons] at hF2
      have ht8 : (votesE acc).take (acc.length * 8) = votesE acc := List.take_of_length_le (by rw [votes_len]; omega)
      have hbo := batch_ok4 l[k].ns v3 v4
      repeat' (first | (with_reducible first | refine SeqQ_normal _ _ ?_ | refine CondR_tt ?_ | refine CondR_ff ?_) | rw [awp_seq] | simp only [pkS, TyB, hat, nvotes_len, x1, x2, y1, y2, hw1, hwD, ht8, pkX, Int.reduceEq, implies_true, forall_const, Nat.reduceSub, Nat.reduceEqDiff, Nat.reduceAdd, Nat.reduceMul, Nat.reduceLeDiff, Nat.reduceLT, Nat.reduceBEq, reduceCtorEq] | ((try refine CallRG_tt ?_); apply CallR_of; (solve | exact (hbo) | (refine CallOK.le (hbo) ?_; simp [argsLe, aLe, csLe, cLe]))) | (apply CallRG_of; (focus (intro _; (solve | exact (hbo) | (refine CallOK.le (hbo) ?_; simp [argsLe, aLe, csLe, cLe])))); (focus rfl)) | refine CallRG_no ?_ | refine CondR_of (fun hb => ?_) (fun hb => ?_) | (refine And.intro ?_ ?_; focus ((try with_reducible refine GIm_of ?_); first | (with_reducible rfl) | ((with_reducible first | refine rng_of ?_ | refine ordOK_of ?_ | refine chk_of ?_); kernel_rfl) | (intros; omega) | (intro q p; rw [q, p]; rfl) | (intro q; rw [q]; rfl) | (intro q; simp only [Bool.and_eq_true, decide_eq_true_eq, beq_iff_eq] at q; omega) | (intros; simp_all; done) | (intros; simp [List.range, List.range.loop]; done) | (intros; simp_all [List.range, List.range.loop]; done))) | refine And.intro (fun hg => ?_) (fun hg => ?_) | (with_reducible refine chk_of ?_; kernel_rfl) | fail)
      · have hv : voteAt s l[k] = true := hb
        rw [hv] at hF2
        simp only at hF2
        rw [← hF2] at hf

        refine hK _ (m, s + 1, acc ++ [⟨dn + s, m8 l[k].ballot 9, batchB l[k].ns⟩]) (Gh.canon [12, 13] [] [] (by simp only [hws, fgc_dead, fgc_dv, fgc_lent, fgc_nil, fgc_ptr, fgc_own, List.set_cons_zero, List.set_cons_succ, and_true, true_and, Int.natCast_zero, Int.cast_ofNat_Int, D.v.injEq, Value.int.injEq]; try (repeat' (first | rfl | omega | with_reducible apply And.intro))) rfl (by simp only [List.length_append, List.length_singleton]; rw [votesE_snoc]; rfl))
          ⟨by simp only; omega, by simp only [List.length_append, List.length_singleton]; omega⟩ hf.symm (by simp only; omega)
      · have hv : voteAt s l[k] = false := hb
        rw [hv] at hF2
        refine hK2 _ (k + 1) (Gh.canon [12, 13] [] [] (by simp only [i64_succ hk (by omega), fgc_dead, fgc_dv, fgc_lent, fgc_nil, fgc_ptr, fgc_own, List.set_cons_zero, List.set_cons_succ, and_true, true_and, Int.natCast_zero, Int.cast_ofNat_Int, D.v.injEq, Value.int.injEq]; try (repeat' (first | rfl | omega | with_reducible apply And.intro))) rfl rfl) hk (by rw [List.drop_eq_getElem_cons hk, List.find?_cons, hv]) (by omega)
    · have hk : k = l.length := by
        have : ¬ (k : Int) < l.length := by simpa using hge2
        omega
      rw [hk, List.drop_length, List.find?_nil] at hF2
      rw [← hF2] at hf
      clear hF2 hK2
      repeat (first | with_reducible refine SeqQ_normal _ _ ?_ | with_reducible refine And.imp_right (SeqQ_normal _ _) ?_ | with_reducible refine And.imp_right (And.imp_right (SeqQ_normal _ _)) ?_ | with_reducible refine And.imp_right (And.imp_right (And.imp_right (SeqQ_normal _ _))) ?_ | rw [awp_seq] | simp only [pkS, TyB,  implies_true, forall_const, Nat.reduceSub, Nat.reduceEqDiff, Nat.reduceAdd, Nat.reduceMul, Nat.reduceLeDiff, Nat.reduceLT, Nat.reduceBEq, reduceCtorEq])
      refine hK _ (m, s + 1, acc) (Gh.canon [12, 13] [] [] (by simp only [hws, fgc_dead, fgc_dv, fgc_lent, fgc_nil, fgc_ptr, fgc_own, List.set_cons_zero, List.set_cons_succ, and_true, true_and, Int.natCast_zero, Int.cast_ofNat_Int, D.v.injEq, Value.int.injEq]; try (repeat' (first | rfl | omega | with_reducible apply And.intro))) rfl rfl) ⟨by simp only; omega, by simp only; omega⟩ hf.symm (by simp only; omega)
  · have hn0 : n = 0 := by
      have : ¬ (s : Int) ≤ 9 := by simpa using hge
      omega
    subst hn0
    rw [votesB] at hF
    rw [← hF]
    repeat' (first | (with_reducible first | refine SeqQ_normal _ _ ?_ | refine CondR_tt ?_ | refine CondR_ff ?_) | rw [awp_seq] | simp only [pkS, TyB, pkX, Int.reduceEq, implies_true, forall_const, Nat.reduceSub, Nat.reduceEqDiff, Nat.reduceAdd, Nat.reduceMul, Nat.reduceLeDiff, Nat.reduceLT, Nat.reduceBEq, reduceCtorEq] | refine CallRG_no ?_ | refine CondR_of (fun hb => ?_) (fun hb => ?_) | (refine And.intro ?_ ?_; focus ((try with_reducible refine GIm_of ?_); first | (with_reducible rfl) | ((with_reducible first | refine rng_of ?_ | refine ordOK_of ?_ | refine chk_of ?_); kernel_rfl) | (intros; omega) | (intro q p; rw [q, p]; rfl) | (intro q; rw [q]; rfl) | (intro q; simp only [Bool.and_eq_true, decide_eq_true_eq, beq_iff_eq] at q; omega) | (intros; simp_all; done) | (intros; simp [List.range, List.range.loop]; done) | (intros; simp_all [List.range, List.range.loop]; done))) | refine And.intro (fun hg => ?_) (fun hg => ?_) | (with_reducible refine chk_of ?_; kernel_rfl) | fail)
    simp [rfsLe, rfLe, rosLe_cons, rosLe_nil, roLe]
end Go.Proofs.YtgiempmfpmlgnaaGreat

