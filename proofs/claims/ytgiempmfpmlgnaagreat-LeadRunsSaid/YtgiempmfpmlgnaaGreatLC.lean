/- The leader: its slots, a promise kept, what is trimmed. -/
import Derived.Test.YtgiempmfpmlgnaaGreatLB
namespace Go.Proofs.YtgiempmfpmlgnaaGreat
open Go.Pk
set_option maxRecDepth 100000
set_option linter.unusedSimpArgs false
set_option linter.unusedVariables false
def slotsF (d : Int) (v : Vote) : Bool := decide (v.slot > d) && decide (v.slot - 3 ≤ d)
abbrev rowV (l : List Vote) : RF := .one (.own 8 l.length (votesE l) false)
def slotsP (L : LeadS) (d : Int) : List Vote := if (L.phase != 2) = true then [] else L.slots.filter (slotsF d)
/-- Votes that can be held. -/
def voteFit (v : Vote) : Prop := 0 ≤ v.slot ∧ v.slot < 2 ^ 62 ∧ v.batch.reqs.length < 2 ^ 30
set_option maxHeartbeats 1000000 in
theorem slots_ok (L : LeadS) (d : Int) (hL : L.slots.length < 2 ^ 30) (hv : ∀ v ∈ L.slots, voteFit v) : CallOK Tryz.prog 29 [.f L.at, .f (ai d)] (fun r o => r = [rowV (slotsP L d)] ∧ o = []) := by
  refine CallOK.nil ?_
  refine callOK_of TOKTy mixed (T := Ty) (n := 49) Tryz.func29 (c := Tryz.f29.body.getD .skip) rfl Tryz.results29 Tryz.ntmps29 Tryz.call29 ?_
  simp only [Tryz.f29, Option.getD]
  cases hph : (L.phase != 2)
  · have hsp : slotsP L d = L.slots.filter (slotsF d) := by rw [slotsP, if_neg (by rw [hph]; simp)]
    rw [hsp]
    repeat' (first | (with_reducible first | refine SeqQ_normal _ _ ?_ | refine CondR_tt ?_ | refine CondR_ff ?_) | rw [awp_seq] | simp only [pkS, TyB, hph, pkY, Int.reduceEq, bne_self_eq_false, Int.reduceBEq, Int.reduceBNe, implies_true, forall_const, Nat.reduceSub, Nat.reduceEqDiff, Nat.reduceAdd, Nat.reduceMul, Nat.reduceLeDiff, Nat.reduceLT, Nat.reduceBEq, reduceCtorEq] | refine CallRG_no ?_ | refine CondR_of (fun hb => ?_) (fun hb => ?_) | (refine And.intro ?_ ?_; focus ((try with_reducible refine GIm_of ?_); first | (with_reducible rfl) | ((with_reducible first | refine rng_of ?_ | refine ordOK_of ?_ | refine chk_of ?_); kernel_rfl) | (intros; omega) | (intro q p; rw [q, p]; rfl) | (intro q; rw [q]; rfl) | (intro q; simp only [Bool.and_eq_true, decide_eq_true_eq, beq_iff_eq] at q; omega) | (intros; simp_all; done) | (intros; simp [List.range, List.range.loop]; done) | (intros; simp_all [List.range, List.range.loop]; done))) | refine And.intro (fun hg => ?_) (fun hg => ?_) | (with_reducible refine chk_of ?_; kernel_rfl) | fail)
    refine LoopR_fn (τ := Nat × List Vote) (fun t => ⟨[dd, ai d, dd, dd, dd, .one (.own ⟨5, 1, 1⟩ 0 t.2.length), dd, dd, dd, dd, dd, dd, dd, dd, dd, dd, dd, dd, dd, dd, al L.slots.length (votesE L.slots), ai L.slots.length, ai t.1, dd, dd, dd, dd, dd, dd, dd, dd, dd, dd, dd, dd, dd, dd, dd, dd, dd, dd, dd, dd, dd, dd, dd, dd, dd, dd], [(5, { next := 2, l := [none, some { e := 1, var := false, fz := false, sz := 8, cells := (votesE t.2).map C.d }] }), (7, ⟨2, []⟩), (40, ⟨2, []⟩), (45, ⟨2, []⟩), (46, ⟨2, []⟩)]⟩)
      (fun t => t.1 ≤ L.slots.length ∧ t.2.length ≤ t.1) (fun t => t.2 ++ (L.slots.drop t.1).filter (slotsF d)) (fun t => L.slots.length - t.1) (0, [])
      ((Gh.nil (i := 5) (s := 5) (sz := 8) rfl).trans (Gh.canon [5] [7, 40, 45, 46] [] (by simp only [fgc_dead, fgc_dv, fgc_lent, fgc_nil, fgc_ptr, fgc_own, List.set_cons_zero, List.set_cons_succ, and_true, true_and, Int.natCast_zero, Int.cast_ofNat_Int, D.v.injEq, Value.int.injEq]; try (repeat' (first | rfl | omega | with_reducible apply And.intro))) rfl rfl)) ⟨Nat.zero_le _, Nat.le_refl _⟩ ?_
    intro ⟨i, acc⟩ ⟨hi0, ha⟩ hF K hK
    simp only [List.drop_zero, List.nil_append] at hi0 ha hF hK ⊢
    repeat (first | with_reducible refine SeqQ_normal _ _ ?_ | with_reducible refine And.imp_right (SeqQ_normal _ _) ?_ | with_reducible refine And.imp_right (And.imp_right (SeqQ_normal _ _)) ?_ | with_reducible refine And.imp_right (And.imp_right (And.imp_right (SeqQ_normal _ _))) ?_ | rw [awp_seq] | simp only [pkS, TyB,  implies_true, forall_const, Nat.reduceSub, Nat.reduceEqDiff, Nat.reduceAdd, Nat.reduceMul, Nat.reduceLeDiff, Nat.reduceLT, Nat.reduceBEq, reduceCtorEq])
    refine CondR_of (fun hlt => ?_) (fun hge => ?_)
    · have hi : i < L.slots.length := by simpa using hlt
      have hat := votes_at hi
      simp only [List.cons_append, List.nil_append] at hat
      have hw := i64_succ hi (by omega)
      have hvi := hv _ (List.getElem_mem hi)
      have hw2 : IntKind.i64.wrap (L.slots[i].slot - 3) = L.slots[i].slot - 3 := wrap64 (by have := hvi.1; omega) (by have := hvi.2.1; omega)
      have hcl := cloneReq_ok L.slots[i].batch.reqs.length (reqsE L.slots[i].batch.reqs) reqs_len (by have := hvi.2.2; omega)
      have hfil : (L.slots.drop i).filter (slotsF d) = (if slotsF d L.slots[i] = true then [L.slots[i]] else []) ++ (L.slots.drop (i + 1)).filter (slotsF d) := by
        rw [List.drop_eq_getElem_cons hi, List.filter_cons]; split <;> simp
      cases hc : slotsF d L.slots[i]
      · have hc' : (decide (L.slots[i].slot > d) && decide (L.slots[i].slot - 3 ≤ d)) = false := hc
        rw [hc] at hfil
        repeat' (first | (with_reducible first | refine SeqQ_normal _ _ ?_ | refine CondR_tt ?_ | refine CondR_ff ?_) | rw [awp_seq] | simp only [pkS, TyB, hat, votes_len, hw2, hc', pkY, Int.reduceEq, bne_self_eq_false, Int.reduceBEq, Int.reduceBNe, implies_true, forall_const, Nat.reduceSub, Nat.reduceEqDiff, Nat.reduceAdd, Nat.reduceMul, Nat.reduceLeDiff, Nat.reduceLT, Nat.reduceBEq, reduceCtorEq] | ((try refine CallRG_tt ?_); apply CallR_of; (solve | exact (hcl) | (refine CallOK.le (hcl) ?_; simp [argsLe, aLe, csLe, cLe]))) | (apply CallRG_of; (focus (intro _; (solve | exact (hcl) | (refine CallOK.le (hcl) ?_; simp [argsLe, aLe, csLe, cLe])))); (focus rfl)) | refine CallRG_no ?_ | refine CondR_of (fun hb => ?_) (fun hb => ?_) | (refine And.intro ?_ ?_; focus ((try with_reducible refine GIm_of ?_); first | (with_reducible rfl) | ((with_reducible first | refine rng_of ?_ | refine ordOK_of ?_ | refine chk_of ?_); kernel_rfl) | (intros; omega) | (intro q p; rw [q, p]; rfl) | (intro q; rw [q]; rfl) | (intro q; simp only [Bool.and_eq_true, decide_eq_true_eq, beq_iff_eq] at q; omega) | (intros; simp_all; done) | (intros; simp [List.range, List.range.loop]; done) | (intros; simp_all [List.range, List.range.loop]; done))) | refine And.intro (fun hg => ?_) (fun hg => ?_) | (with_reducible refine chk_of ?_; kernel_rfl) | fail)
        refine hK _ (i + 1, acc) (Gh.canon [5] [] [] (by simp only [hw, fgc_dead, fgc_dv, fgc_lent, fgc_nil, fgc_ptr, fgc_own, List.set_cons_zero, List.set_cons_succ, and_true, true_and, Int.natCast_zero, Int.cast_ofNat_Int, D.v.injEq, Value.int.injEq]; try (repeat' (first | rfl | omega | with_reducible apply And.intro))) rfl rfl) ⟨hi, by simp only; omega⟩ ?_ (by simp only; omega)
        simp only
        rw [hfil]
        simp
      · have hc' : (decide (L.slots[i].slot > d) && decide (L.slots[i].slot - 3 ≤ d)) = true := hc
        rw [hc] at hfil
        repeat' (first | (with_reducible first | refine SeqQ_normal _ _ ?_ | refine CondR_tt ?_ | refine CondR_ff ?_) | rw [awp_seq] | simp only [pkS, TyB, hat, votes_len, hw2, hc', pkY, Int.reduceEq, bne_self_eq_false, Int.reduceBEq, Int.reduceBNe, implies_true, forall_const, Nat.reduceSub, Nat.reduceEqDiff, Nat.reduceAdd, Nat.reduceMul, Nat.reduceLeDiff, Nat.reduceLT, Nat.reduceBEq, reduceCtorEq] | ((try refine CallRG_tt ?_); apply CallR_of; (solve | exact (hcl) | (refine CallOK.le (hcl) ?_; simp [argsLe, aLe, csLe, cLe]))) | (apply CallRG_of; (focus (intro _; (solve | exact (hcl) | (refine CallOK.le (hcl) ?_; simp [argsLe, aLe, csLe, cLe])))); (focus rfl)) | refine CallRG_no ?_ | refine CondR_of (fun hb => ?_) (fun hb => ?_) | (refine And.intro ?_ ?_; focus ((try with_reducible refine GIm_of ?_); first | (with_reducible rfl) | ((with_reducible first | refine rng_of ?_ | refine ordOK_of ?_ | refine chk_of ?_); kernel_rfl) | (intros; omega) | (intro q p; rw [q, p]; rfl) | (intro q; rw [q]; rfl) | (intro q; simp only [Bool.and_eq_true, decide_eq_true_eq, beq_iff_eq] at q; omega) | (intros; simp_all; done) | (intros; simp [List.range, List.range.loop]; done) | (intros; simp_all [List.range, List.range.loop]; done))) | refine And.intro (fun hg => ?_) (fun hg => ?_) | (with_reducible refine chk_of ?_; kernel_rfl) | fail)
        refine hK _ (i + 1, acc ++ [L.slots[i]]) (Gh.canon [5] [] [] (by simp only [hw, List.length_append, List.length_singleton, fgc_dead, fgc_dv, fgc_lent, fgc_nil, fgc_ptr, fgc_own, List.set_cons_zero, List.set_cons_succ, and_true, true_and, Int.natCast_zero, Int.cast_ofNat_Int, D.v.injEq, Value.int.injEq]; try (repeat' (first | rfl | omega | with_reducible apply And.intro))) rfl (by simp only [List.length_append, List.length_singleton]; rw [votesE_snoc]; rfl)) ⟨hi, by simp only [List.length_append, List.length_singleton]; omega⟩ ?_ (by simp only; omega)
        simp only
        rw [hfil]
        simp
    · have hi : i = L.slots.length := by
        have : ¬ (i : Int) < L.slots.length := by simpa using hge
        omega
      rw [hi, List.drop_length, List.filter_nil, List.append_nil] at hF
      rw [← hF]
      repeat' (first | (with_reducible first | refine SeqQ_normal _ _ ?_ | refine CondR_tt ?_ | refine CondR_ff ?_) | rw [awp_seq] | simp only [pkS, TyB, pkY, Int.reduceEq, bne_self_eq_false, Int.reduceBEq, Int.reduceBNe, implies_true, forall_const, Nat.reduceSub, Nat.reduceEqDiff, Nat.reduceAdd, Nat.reduceMul, Nat.reduceLeDiff, Nat.reduceLT, Nat.reduceBEq, reduceCtorEq] | refine CallRG_no ?_ | refine CondR_of (fun hb => ?_) (fun hb => ?_) | (refine And.intro ?_ ?_; focus ((try with_reducible refine GIm_of ?_); first | (with_reducible rfl) | ((with_reducible first | refine rng_of ?_ | refine ordOK_of ?_ | refine chk_of ?_); kernel_rfl) | (intros; omega) | (intro q p; rw [q, p]; rfl) | (intro q; rw [q]; rfl) | (intro q; simp only [Bool.and_eq_true, decide_eq_true_eq, beq_iff_eq] at q; omega) | (intros; simp_all; done) | (intros; simp [List.range, List.range.loop]; done) | (intros; simp_all [List.range, List.range.loop]; done))) | refine And.intro (fun hg => ?_) (fun hg => ?_) | (with_reducible refine chk_of ?_; kernel_rfl) | fail)
      simp [rfs1, roLe]
  · have hsp : slotsP L d = [] := by rw [slotsP, if_pos hph]
    rw [hsp]
    repeat' (first | (with_reducible first | refine SeqQ_normal _ _ ?_ | refine CondR_tt ?_ | refine CondR_ff ?_) | rw [awp_seq] | simp only [pkS, TyB, hph, pkY, Int.reduceEq, bne_self_eq_false, Int.reduceBEq, Int.reduceBNe, implies_true, forall_const, Nat.reduceSub, Nat.reduceEqDiff, Nat.reduceAdd, Nat.reduceMul, Nat.reduceLeDiff, Nat.reduceLT, Nat.reduceBEq, reduceCtorEq] | refine CallRG_no ?_ | refine CondR_of (fun hb => ?_) (fun hb => ?_) | (refine And.intro ?_ ?_; focus ((try with_reducible refine GIm_of ?_); first | (with_reducible rfl) | ((with_reducible first | refine rng_of ?_ | refine ordOK_of ?_ | refine chk_of ?_); kernel_rfl) | (intros; omega) | (intro q p; rw [q, p]; rfl) | (intro q; rw [q]; rfl) | (intro q; simp only [Bool.and_eq_true, decide_eq_true_eq, beq_iff_eq] at q; omega) | (intros; simp_all; done) | (intros; simp [List.range, List.range.loop]; done) | (intros; simp_all [List.range, List.range.loop]; done))) | refine And.intro (fun hg => ?_) (fun hg => ?_) | (with_reducible refine chk_of ?_; kernel_rfl) | fail)
    simp [rfs1, roLe]
theorem set_same {α : Type} {l : List α} {i : Nat} {x : α} (h : l[i]? = some x) : l.set i x = l := by
  apply List.ext_getElem?
  intro k
  rw [List.getElem?_set]
  split
  · rename_i e
    subst e
    rw [h]
    split
    · rfl
    · rename_i hk; rw [List.getElem?_eq_none (by omega)] at h; cases h
  · rfl
theorem votes_get7 {l : List Vote} {i : Nat} (hi : i < l.length) : (votesE l)[i * 8 + 7]? = some (.sl l[i].batch.reqs.length (reqsE l[i].batch.reqs)) := by
  have := votes_at hi
  have h2 : ((votesE l).drop (i * 8))[7]? = some (.sl l[i].batch.reqs.length (reqsE l[i].batch.reqs)) := by rw [this]; rfl
  rwa [List.getElem?_drop] at h2
set_option maxHeartbeats 1000000 in
theorem kept_ok (p : Prom) (hn : p.votes.length < 2 ^ 30) (hr : ∀ v ∈ p.votes, v.batch.reqs.length < 2 ^ 30) : CallOK Tryz.prog 39 [.f (.agg p.lent)] (fun r o => r = [promRf p] ∧ o = []) := by
  refine callOK_of TOKTy mixed (T := Ty) (n := 30) Tryz.func39 (c := Tryz.f39.body.getD .skip) rfl Tryz.results39 Tryz.ntmps39 Tryz.call39 ?_
  simp only [Tryz.f39, Option.getD]
  have hcv := clone_vote p.votes.length (votesE p.votes) votes_len (by omega)
  repeat' (first | (with_reducible first | refine SeqQ_normal _ _ ?_ | refine CondR_tt ?_ | refine CondR_ff ?_) | rw [awp_seq] | simp only [pkS, TyB, pkY, Int.reduceEq, bne_self_eq_false, Int.reduceBEq, Int.reduceBNe, implies_true, forall_const, Nat.reduceSub, Nat.reduceEqDiff, Nat.reduceAdd, Nat.reduceMul, Nat.reduceLeDiff, Nat.reduceLT, Nat.reduceBEq, reduceCtorEq] | ((try refine CallRG_tt ?_); apply CallR_of; (solve | exact (hcv) | (refine CallOK.le (hcv) ?_; simp [argsLe, aLe, csLe, cLe]))) | (apply CallRG_of; (focus (intro _; (solve | exact (hcv) | (refine CallOK.le (hcv) ?_; simp [argsLe, aLe, csLe, cLe])))); (focus rfl)) | refine CallRG_no ?_ | refine CondR_of (fun hb => ?_) (fun hb => ?_) | (refine And.intro ?_ ?_; focus ((try with_reducible refine GIm_of ?_); first | (with_reducible rfl) | ((with_reducible first | refine rng_of ?_ | refine ordOK_of ?_ | refine chk_of ?_); kernel_rfl) | (intros; omega) | (intro q p; rw [q, p]; rfl) | (intro q; rw [q]; rfl) | (intro q; simp only [Bool.and_eq_true, decide_eq_true_eq, beq_iff_eq] at q; omega) | (intros; simp_all; done) | (intros; simp [List.range, List.range.loop]; done) | (intros; simp_all [List.range, List.range.loop]; done))) | refine And.intro (fun hg => ?_) (fun hg => ?_) | (with_reducible refine chk_of ?_; kernel_rfl) | fail)
  refine LoopR_ix Ty Tryz.prog (τ := Nat) (fun i => ⟨[dd, .one (.ptr ⟨1, 0, 1⟩ 0), .one (.ptr ⟨2, 0, 1⟩ 0), dd, dd, dd, dd, dd, dd, dd, ai p.votes.length, ai i, dd, dd, dd, dd, dd, dd, dd, dd, dd, dd, dd, dd, dd, dd, dd, dd, dd, dd],
      [(1, { next := 2, l := [some { e := 1, var := true, fz := false, sz := 0, cells := [di p.src, di p.done, di p.tip.view, di p.tip.slot, di p.time, .own ⟨1, 6, 1⟩ 0 p.votes.length] }, none, none, none, none, none, some { e := 1, var := false, fz := false, sz := 8, cells := (votesE p.votes).map C.d }] }), (2, { next := 2, l := [some { e := 1, var := true, fz := false, sz := 0, cells := [di 0, di 0, di 0, di 0, di 0, .d (.v (.slice none 0 0))] }, none, none, none, none, none, none] }), (6, ⟨2, []⟩), (24, ⟨2, []⟩)]⟩)
    (fun i => i ≤ p.votes.length) (fun i => p.votes.length - i) 0 (Gh.canon [1, 2] [24] [] (by simp only [fgc_dead, fgc_dv, fgc_lent, fgc_nil, fgc_ptr, fgc_own, List.set_cons_zero, List.set_cons_succ, and_true, true_and, Int.natCast_zero, Int.cast_ofNat_Int, D.v.injEq, Value.int.injEq]; try (repeat' (first | rfl | omega | with_reducible apply And.intro))) rfl rfl) (Nat.zero_le _) ?_
  intro i hi0 K hK
  repeat (first | with_reducible refine SeqQ_normal _ _ ?_ | with_reducible refine And.imp_right (SeqQ_normal _ _) ?_ | with_reducible refine And.imp_right (And.imp_right (SeqQ_normal _ _)) ?_ | with_reducible refine And.imp_right (And.imp_right (And.imp_right (SeqQ_normal _ _))) ?_ | rw [awp_seq] | simp only [pkS, TyB,  implies_true, forall_const, Nat.reduceSub, Nat.reduceEqDiff, Nat.reduceAdd, Nat.reduceMul, Nat.reduceLeDiff, Nat.reduceLT, Nat.reduceBEq, reduceCtorEq])
  refine CondR_of (fun hlt => ?_) (fun hge => ?_)
  · have hi : i < p.votes.length := by simpa using hlt
    have hat := votes_at hi
    simp only [List.cons_append, List.nil_append] at hat
    have hw := i64_succ hi (by omega)
    have hcl := cloneReq_ok p.votes[i].batch.reqs.length (reqsE p.votes[i].batch.reqs) reqs_len (by have := hr _ (List.getElem_mem hi); omega)
    have hd7 : List.drop (i * 8 + 2 + 5) (List.map C.d (votesE p.votes)) = C.d (.sl p.votes[i].batch.reqs.length (reqsE p.votes[i].batch.reqs)) :: (votesE (p.votes.drop (i + 1))).map C.d := by
      rw [← List.map_drop, show i * 8 + 2 + 5 = i * 8 + 7 by omega, ← List.drop_drop, votes_at hi]; rfl
    have hset : (List.map C.d (votesE p.votes)).set (i * 8 + 2 + 5) (C.d (.sl p.votes[i].batch.reqs.length (reqsE p.votes[i].batch.reqs))) = List.map C.d (votesE p.votes) := by
      refine set_same ?_
      rw [List.getElem?_map, show i * 8 + 2 + 5 = i * 8 + 7 by omega, votes_get7 hi]; rfl
    repeat' (first | (with_reducible first | refine SeqQ_normal _ _ ?_ | refine CondR_tt ?_ | refine CondR_ff ?_) | rw [awp_seq] | simp only [pkS, TyB, hat, votes_len, hd7, hset, pkY, Int.reduceEq, bne_self_eq_false, Int.reduceBEq, Int.reduceBNe, implies_true, forall_const, Nat.reduceSub, Nat.reduceEqDiff, Nat.reduceAdd, Nat.reduceMul, Nat.reduceLeDiff, Nat.reduceLT, Nat.reduceBEq, reduceCtorEq] | ((try refine CallRG_tt ?_); apply CallR_of; (solve | exact (hcl) | (refine CallOK.le (hcl) ?_; simp [argsLe, aLe, csLe, cLe]))) | (apply CallRG_of; (focus (intro _; (solve | exact (hcl) | (refine CallOK.le (hcl) ?_; simp [argsLe, aLe, csLe, cLe])))); (focus rfl)) | refine CallRG_no ?_ | refine CondR_of (fun hb => ?_) (fun hb => ?_) | (refine And.intro ?_ ?_; focus ((try with_reducible refine GIm_of ?_); first | (with_reducible rfl) | ((with_reducible first | refine rng_of ?_ | refine ordOK_of ?_ | refine chk_of ?_); kernel_rfl) | (intros; omega) | (intro q p; rw [q, p]; rfl) | (intro q; rw [q]; rfl) | (intro q; simp only [Bool.and_eq_true, decide_eq_true_eq, beq_iff_eq] at q; omega) | (intros; simp_all; done) | (intros; simp [List.range, List.range.loop]; done) | (intros; simp_all [List.range, List.range.loop]; done))) | refine And.intro (fun hg => ?_) (fun hg => ?_) | (with_reducible refine chk_of ?_; kernel_rfl) | fail)
    exact hK _ (i + 1) (Gh.canon [1, 2] [] [] (by simp only [hw, fgc_dead, fgc_dv, fgc_lent, fgc_nil, fgc_ptr, fgc_own, List.set_cons_zero, List.set_cons_succ, and_true, true_and, Int.natCast_zero, Int.cast_ofNat_Int, D.v.injEq, Value.int.injEq]; try (repeat' (first | rfl | omega | with_reducible apply And.intro))) rfl rfl) hi (by omega)
  · repeat' (first | (with_reducible first | refine SeqQ_normal _ _ ?_ | refine CondR_tt ?_ | refine CondR_ff ?_) | rw [awp_seq] | simp only [pkS, TyB, pkY, Int.reduceEq, bne_self_eq_false, Int.reduceBEq, Int.reduceBNe, implies_true, forall_const, Nat.reduceSub, Nat.reduceEqDiff, Nat.reduceAdd, Nat.reduceMul, Nat.reduceLeDiff, Nat.reduceLT, Nat.reduceBEq, reduceCtorEq] | refine CallRG_no ?_ | refine CondR_of (fun hb => ?_) (fun hb => ?_) | (refine And.intro ?_ ?_; focus ((try with_reducible refine GIm_of ?_); first | (with_reducible rfl) | ((with_reducible first | refine rng_of ?_ | refine ordOK_of ?_ | refine chk_of ?_); kernel_rfl) | (intros; omega) | (intro q p; rw [q, p]; rfl) | (intro q; rw [q]; rfl) | (intro q; simp only [Bool.and_eq_true, decide_eq_true_eq, beq_iff_eq] at q; omega) | (intros; simp_all; done) | (intros; simp [List.range, List.range.loop]; done) | (intros; simp_all [List.range, List.range.loop]; done))) | refine And.intro (fun hg => ?_) (fun hg => ?_) | (with_reducible refine chk_of ?_; kernel_rfl) | fail)
end Go.Proofs.YtgiempmfpmlgnaaGreat

