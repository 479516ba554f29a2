/- LeadStops. -/
import Derived.Test.YtgiempmfpmlgnaaLF
namespace Go.Proofs.Ytgiempmfpmlgnaa
open Go.Pk
set_option maxRecDepth 100000
set_option linter.unusedSimpArgs false
set_option linter.unusedVariables false
structure LInv (n : Nat) (L : LeadS) : Prop where
  ph : L.phase = 2
  nx : 0 ≤ L.next
  sl : L.slots.length ≤ n
  sv : ∀ w ∈ L.slots, voteFit w
  hl : L.heard.length ≤ 7
theorem voteOf_len {v f : Int} : ∀ {bs : List Batch} {i : Nat}, (voteOf v f i bs).length = bs.length
  | [], _ => rfl
  | b :: bs, i => by simp [voteOf, voteOf_len (bs := bs)]
theorem voteOf_mem {v f : Int} : ∀ {bs : List Batch} {i : Nat} {w : Vote}, w ∈ voteOf v f i bs → ∃ j, i ≤ j ∧ j < i + bs.length ∧ w.slot = f + j ∧ w.ballot = v ∧ w.batch ∈ bs
  | [], _, _, h => by simp [voteOf] at h
  | b :: bs, i, w, h => by
    rw [voteOf] at h
    rcases List.mem_cons.1 h with rfl | h
    · exact ⟨i, Nat.le_refl _, by simp, rfl, rfl, by simp⟩
    · obtain ⟨j, h1, h2, h3, h4, h5⟩ := voteOf_mem h
      exact ⟨j, by omega, by simp only [List.length_cons]; omega, h3, h4, List.mem_cons_of_mem _ h5⟩
theorem ledP_inv (v : Int) (p q : Prom) : LInv 9 (ledP v p q) := by
  obtain ⟨⟨h1, h2⟩, h3, h4⟩ := makeP_done [p, q]
  refine ⟨rfl, by simp only [ledP]; omega, by simp only [ledP, voteOf_len]; exact h3, fun w hw => ?_, by simp [ledP]⟩
  obtain ⟨j, e1, e2, e3, e4, e5⟩ := voteOf_mem hw
  have := h4 _ e5
  exact ⟨by omega, by omega, by omega⟩
theorem addP_inv {n : Nat} {L : LeadS} (h : LInv n L) (done time : Int) (rs : List Req) (hr : rs.length < 2 ^ 30) : LInv (n + 1) (addP L done time rs).1 := by
  have h0 : LInv (n + 1) L := ⟨h.ph, h.nx, by have := h.sl; omega, h.sv, h.hl⟩
  unfold addP
  split
  · exact h0
  split
  · exact h0
  split
  · exact h0
  · rename_i hc
    simp at hc
    have hH : High = 2305843009213693952 := rfl
    have := h.nx
    refine ⟨h.ph, by simp only; omega, by simp only [List.length_append, List.length_singleton]; have := h.sl; omega, fun w hw => ?_, h.hl⟩
    rcases List.mem_append.1 hw with hw | hw
    · exact h.sv w hw
    · simp only [List.mem_singleton] at hw
      subst hw
      exact ⟨this, by simp only; omega, hr⟩
set_option maxHeartbeats 8000000 in
theorem leadStops_of (v : Int) (a b : NTold) (adds dn how : Int) (hv : u8 v) (ha : a.ok) (hb : b.ok) (had : u8 adds) (hdn : u8 dn) (hhw : u8 how) :
    CallOK Try.prog 5 [.f (ru v), .f (.agg (a.enc.map C.d)), .f (.agg (b.enc.map C.d)), .f (ru adds), .f (ru dn), .f (ru how)] (fun r o => r = [rb true] ∧ o = []) := by
  refine callOK_of TOKTy mixed (T := Ty) (n := 213) Try.func5 (c := Try.f5.body.getD .skip) rfl Try.results5 Try.ntmps5 Try.call5 ?_
  simp only [Try.f5, Option.getD]
  have hled := led_ok v a b hv ha hb
  have hinv := ledP_inv v (promB 0 a) (promB 2 b)
  have hXd := makeP_done [promB 0 a, promB 2 b]
  obtain ⟨X, hX⟩ : ∃ X, X = (makeP [promB 0 a, promB 2 b]).1 := ⟨_, rfl⟩
  obtain ⟨L0, hL0⟩ : ∃ L0, L0 = ledP v (promB 0 a) (promB 2 b) := ⟨_, rfl⟩
  rw [← hX, ← hL0] at hled
  rw [← hX] at hXd
  rw [← hL0] at hinv
  obtain ⟨⟨hd0, hd1⟩, hb9, hb3⟩ := hXd
  repeat' (first | with_reducible refine SeqQ_normal _ _ ?_ | rw [awp_seq] | simp only [pkS, TyB, Nat.reduceSub, Plan.rf, pkY, Int.reduceEq, bne_self_eq_false, Int.reduceBEq, Int.reduceBNe, if_true, if_false, implies_true, Nat.reduceEqDiff, Nat.reduceAdd, Nat.reduceMul, Nat.reduceLeDiff, Nat.reduceLT, Nat.reduceBEq, beq_self_eq_true, reduceCtorEq, imp_self, ne_eq, not_false_eq_true, beq_iff_eq, forall_const, true_implies] | refine CallP_of (hled) ?_ | (refine CallP_of (CallP.le (hled) ?_) ?_; focus (simp [argsLe, aLe, csLe, cLe] <;> fail)) | with_reducible refine CondR_tt ?_ | with_reducible refine CondR_ff ?_ | refine CallRG_no ?_ | refine CondR_of (fun hb => ?_) (fun hb => ?_) | (refine And.intro ?_ ?_; focus ((try with_reducible refine GIm_of ?_); first | (with_reducible rfl) | (with_reducible refine rng_of ?_; rfl) | (with_reducible refine ordOK_of ?_; kernel_rfl) | (with_reducible refine chk_of ?_; kernel_rfl) | (intros; omega) | (intro q1 q2; rw [q1, q2]; rfl) | (intro q1; rw [q1]; rfl) | (intro q; simp only [Bool.and_eq_true, decide_eq_true_eq, beq_iff_eq] at q; omega) | (intros; simp_all; done) | (intros; simp [List.range, List.range.loop]; done) | (intros; simp_all [List.range, List.range.loop]; done))) | refine And.intro (fun hg => ?_) (fun hg => ?_) | (with_reducible refine chk_of ?_; kernel_rfl) | fail)
  have hm4 : adds.tmod 4 = ((adds.toNat % 4 : Nat) : Int) := tmod_nat had (by decide)
  obtain ⟨m, hm⟩ : ∃ m, m = adds.toNat % 4 := ⟨_, rfl⟩
  have hm3 : m < 4 := by rw [hm]; exact Nat.mod_lt _ (by decide)
  rw [← hm] at hm4
  have hwa := u8w had
  have hwv := u8w hv
  have hwd := u8w hdn
  have hw1 : IntKind.i64.wrap (X.done + (X.batches.length : Int)) = X.done + (X.batches.length : Int) := wrap64 (by omega) (by omega)
  refine LoopR_ix Ty Try.prog (τ := Nat × LeadS) (fun t => ⟨[ru v, dd, dd, ru adds, ru dn, ru how, dd, dd, dd, dd, dd, dd, dd, .one (.ptr ⟨27, 0, 1⟩ 0), .one (.ptr ⟨14, 0, 1⟩ 0), ai t.1, dd, dd, dd, dd, dd, dd, dd, dd, dd, dd, dd, dd, dd, dd, dd, dd, dd, dd, dd, dd, dd, dd, dd, dd, dd, dd, dd, dd, dd, dd, dd, dd, dd, dd, dd, dd, dd, dd, dd, dd, dd, dd, dd, dd, dd, dd, dd, dd, dd, dd, dd, dd, dd, dd, dd, dd, dd, dd, dd, dd, dd, dd, dd, dd, dd, dd, dd, dd, dd, dd, dd, dd, dd, dd, dd, dd, dd, dd, dd, dd, dd, dd, dd, dd, dd, dd, dd, dd, dd, dd, dd, dd, dd, dd, dd, dd, dd, dd, dd, dd, dd, dd, dd, dd, dd, dd, dd, dd, dd, dd, dd, dd, dd, dd, dd, dd, dd, dd, dd, dd, dd, dd, dd, dd, dd, dd, dd, dd, dd, dd, dd, dd, dd, dd, dd, dd, dd, dd, dd, dd, dd, dd, dd, dd, dd, dd, dd, dd, dd, dd, dd, dd, dd, dd, dd, dd, dd, dd, dd, dd, dd, dd, dd, dd, dd, dd, dd, dd, dd, dd, dd, dd, dd, dd, dd, dd, dd, dd, dd, dd, dd, dd, dd, dd, dd, dd, dd, dd, dd, dd, dd, dd, dd, dd, dd, dd, dd], [(7, ⟨2, []⟩), (8, ⟨2, []⟩), (27, { next := 2, l := [some { e := 1, var := true, fz := false, sz := 0, cells := [di t.2.n, di t.2.phase, di t.2.view, .own ⟨27, 4, 1⟩ 0 t.2.heard.length, .own ⟨27, 5, 1⟩ 0 t.2.slots.length, di t.2.next, di t.2.tip.view, di t.2.tip.slot, di t.2.time] }, none, none, none, some { e := 1, var := false, fz := false, sz := 6, cells := (promisesE t.2.heard).map C.d }, some { e := 1, var := false, fz := false, sz := 8, cells := (votesE t.2.slots).map C.d }, none, none, none, none] }), (1000027, ⟨2, []⟩), (14, { next := 2, l := [some { e := 1, var := true, fz := false, sz := 0, cells := [di X.done, di X.tip.view, di X.tip.slot, di X.time, .own ⟨14, 5, 1⟩ 0 X.batches.length, di X.after.view, di X.after.slot, di X.later] }, none, none, none, none, some { e := 1, var := false, fz := false, sz := 6, cells := (batchesE X.batches).map C.d }, none, none, none] })]⟩)
    (fun t => t.1 ≤ m ∧ LInv (9 + t.1) t.2) (fun t => m - t.1) (0, L0) (Gh.canon [27, 14] [] [] (by simp only [fgc_dead, fgc_dv, fgc_lent, fgc_nil, fgc_ptr, fgc_own, List.set_cons_zero, List.set_cons_succ, and_true, true_and, Int.natCast_zero, Int.cast_ofNat_Int, D.v.injEq, Value.int.injEq]; try (repeat' (first | rfl | omega | with_reducible apply And.intro))) rfl rfl) ⟨Nat.zero_le _, hinv⟩ ?_
  intro ⟨i, L⟩ ⟨hi0, hL⟩ K hK
  simp only at hi0 hL hK ⊢
  clear hinv hL0 hled
  repeat (first | with_reducible refine SeqQ_normal _ _ ?_ | with_reducible refine And.imp_right (SeqQ_normal _ _) ?_ | with_reducible refine And.imp_right (And.imp_right (SeqQ_normal _ _)) ?_ | with_reducible refine And.imp_right (And.imp_right (And.imp_right (SeqQ_normal _ _))) ?_ | rw [awp_seq] | simp only [pkS, TyB, Nat.reduceSub, hwa, hm4, Int.reduceEq, if_true, if_false, implies_true, Nat.reduceEqDiff, Nat.reduceAdd, Nat.reduceMul, Nat.reduceLeDiff, Nat.reduceLT, Nat.reduceBEq, beq_self_eq_true, reduceCtorEq, imp_self, ne_eq, not_false_eq_true, beq_iff_eq, forall_const, true_implies])
  refine CondR_of (fun hlt => ?_) (fun hge => ?_)
  · have hi : i < m := by simpa using hlt
    have hw := i64_succ hi (by omega)
    have hadd := add_ok L (X.done + (X.batches.length : Int)) X.later [] (by have := hL.sl; omega) hL.nx (by simp) (fun r h => by simp at h)
    have hinv := addP_inv hL (X.done + (X.batches.length : Int)) X.later [] (by simp)
    obtain ⟨Y, hY⟩ : ∃ Y, Y = addP L (X.done + (X.batches.length : Int)) X.later [] := ⟨_, rfl⟩
    rw [← hY] at hadd hinv
    repeat' (first | with_reducible refine SeqQ_normal _ _ ?_ | rw [awp_seq] | simp only [pkS, TyB, Nat.reduceSub, hw1, pkY, Int.reduceEq, bne_self_eq_false, Int.reduceBEq, Int.reduceBNe, if_true, if_false, implies_true, Nat.reduceEqDiff, Nat.reduceAdd, Nat.reduceMul, Nat.reduceLeDiff, Nat.reduceLT, Nat.reduceBEq, beq_self_eq_true, reduceCtorEq, imp_self, ne_eq, not_false_eq_true, beq_iff_eq, forall_const, true_implies] | with_reducible refine CondR_tt ?_ | with_reducible refine CondR_ff ?_ | refine CallRG_no ?_ | refine CondR_of (fun hb => ?_) (fun hb => ?_) | (refine And.intro ?_ ?_; focus ((try with_reducible refine GIm_of ?_); first | (with_reducible rfl) | (with_reducible refine rng_of ?_; rfl) | (with_reducible refine ordOK_of ?_; kernel_rfl) | (with_reducible refine chk_of ?_; kernel_rfl) | (intros; omega) | (intro q1 q2; rw [q1, q2]; rfl) | (intro q1; rw [q1]; rfl) | (intro q; simp only [Bool.and_eq_true, decide_eq_true_eq, beq_iff_eq] at q; omega) | (intros; simp_all; done) | (intros; simp [List.range, List.range.loop]; done) | (intros; simp_all [List.range, List.range.loop]; done))) | refine And.intro (fun hg => ?_) (fun hg => ?_) | (with_reducible refine chk_of ?_; kernel_rfl) | fail)
    refine CallMJ_of (mv := ?mv1) (lent := ?le1) (x := ?x1) (ass := ?ass1) ?ha1 (hadd) ?hr1 rfl ?hs1 ?hb1 ?hc1
    case ha1 => (try simp only [pkS, TyB, Nat.reduceSub, pkY, Int.reduceEq, bne_self_eq_false, Int.reduceBEq, Int.reduceBNe, if_true, if_false, implies_true, Nat.reduceEqDiff, Nat.reduceAdd, Nat.reduceMul, Nat.reduceLeDiff, Nat.reduceLT, Nat.reduceBEq, beq_self_eq_true, reduceCtorEq, imp_self, ne_eq, not_false_eq_true, beq_iff_eq, forall_const, true_implies]); exact rfl
    case hr1 => simp [rosA, roA]
    case hs1 => simp [argsLe, aLe, csLe, cLe]
    case hb1 => (try simp only [pkS, TyB, Nat.reduceSub, scM, if_true, if_false, implies_true, Nat.reduceEqDiff, Nat.reduceAdd, Nat.reduceMul, Nat.reduceLeDiff, Nat.reduceLT, Nat.reduceBEq, beq_self_eq_true, reduceCtorEq, imp_self, ne_eq, not_false_eq_true, beq_iff_eq, forall_const, true_implies]); repeat' (first | rfl | trivial | omega | with_reducible refine And.intro ?_ ?_)
    show aops _ _ _ _ _ _ _ _
    repeat' (first | with_reducible refine SeqQ_normal _ _ ?_ | rw [awp_seq] | simp only [pkS, TyB, Nat.reduceSub, pkY, Int.reduceEq, bne_self_eq_false, Int.reduceBEq, Int.reduceBNe, if_true, if_false, implies_true, Nat.reduceEqDiff, Nat.reduceAdd, Nat.reduceMul, Nat.reduceLeDiff, Nat.reduceLT, Nat.reduceBEq, beq_self_eq_true, reduceCtorEq, imp_self, ne_eq, not_false_eq_true, beq_iff_eq, forall_const, true_implies] | with_reducible refine CondR_tt ?_ | with_reducible refine CondR_ff ?_ | refine CallRG_no ?_ | refine CondR_of (fun hb => ?_) (fun hb => ?_) | (refine And.intro ?_ ?_; focus ((try with_reducible refine GIm_of ?_); first | (with_reducible rfl) | (with_reducible refine rng_of ?_; rfl) | (with_reducible refine ordOK_of ?_; kernel_rfl) | (with_reducible refine chk_of ?_; kernel_rfl) | (intros; omega) | (intro q1 q2; rw [q1, q2]; rfl) | (intro q1; rw [q1]; rfl) | (intro q; simp only [Bool.and_eq_true, decide_eq_true_eq, beq_iff_eq] at q; omega) | (intros; simp_all; done) | (intros; simp [List.range, List.range.loop]; done) | (intros; simp_all [List.range, List.range.loop]; done))) | refine And.intro (fun hg => ?_) (fun hg => ?_) | (with_reducible refine chk_of ?_; kernel_rfl) | fail)
    exact hK _ (i + 1, Y.1) (Gh.canon [27, 14] [] [] (by simp only [hw, fgc_dead, fgc_dv, fgc_lent, fgc_nil, fgc_ptr, fgc_own, List.set_cons_zero, List.set_cons_succ, and_true, true_and, Int.natCast_zero, Int.cast_ofNat_Int, D.v.injEq, Value.int.injEq]; try (repeat' (first | rfl | omega | with_reducible apply And.intro))) rfl rfl) ⟨hi, hinv⟩ (by simp only; omega)
  · have hi : i = m := by
      have : ¬ (i : Int) < m := by simpa using hge
      omega
    clear hK hge
    have hd14 : dn.tmod 14 = ((dn.toNat % 14 : Nat) : Int) := tmod_nat hdn (by decide)
    obtain ⟨e, he⟩ : ∃ e, e = dn.toNat % 14 := ⟨_, rfl⟩
    have he14 : e < 14 := by rw [he]; exact Nat.mod_lt _ (by decide)
    rw [← he] at hd14
    have hw2 : IntKind.i64.wrap (X.done + (e : Int)) = X.done + (e : Int) := wrap64 (by omega) (by omega)
    have hh3 : how.tmod 3 = ((how.toNat % 3 : Nat) : Int) := tmod_nat hhw (by decide)
    obtain ⟨h, hh⟩ : ∃ h, h = how.toNat % 3 := ⟨_, rfl⟩
    have hhl : h < 3 := by rw [hh]; exact Nat.mod_lt _ (by decide)
    rw [← hh] at hh3
    have hs30 : L.slots.length < 2 ^ 30 := by have := hL.sl; omega
    have hsl := slots_ok L X.done hs30 hL.sv
    have hawake := awake_ok
    have hz : ((((0 : Nat) : Int)) == 0) = true := rfl
    rcases (show h = 0 ∨ h = 1 ∨ h = 2 by omega) with rfl | rfl | rfl
    · have hh3 : how.tmod 3 = 0 := hh3
      have hst := stop_ok L
      obtain ⟨S, hS⟩ : ∃ S, S = stopP L := ⟨_, rfl⟩
      rw [← hS] at hst
      have hs0 := slots_ok S 0 (by rw [hS]; simp [stopP]) (by rw [hS]; simp [stopP])
      have hh0 := heard_ok S (by rw [hS]; simp [stopP])
      have e1 : S.phase = 0 := by rw [hS]; rfl
      have e2 : S.next = 0 := by rw [hS]; rfl
      have e3 : slotsP S 0 = [] := by rw [hS]; rfl
      have e4 : S.heard.map Prom.src = [] := by rw [hS]; rfl
      rw [e3] at hs0
      rw [e4] at hh0
      repeat' (first | with_reducible refine SeqQ_normal _ _ ?_ | rw [awp_seq] | simp only [pkS, TyB, Nat.reduceSub, hwd, hd14, hw2, hh3, pkY, Int.reduceEq, bne_self_eq_false, Int.reduceBEq, Int.reduceBNe, if_true, if_false, implies_true, Nat.reduceEqDiff, Nat.reduceAdd, Nat.reduceMul, Nat.reduceLeDiff, Nat.reduceLT, Nat.reduceBEq, beq_self_eq_true, reduceCtorEq, imp_self, ne_eq, not_false_eq_true, beq_iff_eq, forall_const, true_implies] | refine CallR_of (next_ok L) ?_ | refine CallR_of (hsl) ?_ | (refine CallR_of (CallOK.le (next_ok L) ?_) ?_; focus (simp [argsLe, aLe, csLe, cLe] <;> fail)) | (refine CallR_of (CallOK.le (hsl) ?_) ?_; focus (simp [argsLe, aLe, csLe, cLe] <;> fail)) | refine CallRG_of (fun hg => next_ok L) rfl ?_ | refine CallRG_of (fun hg => hsl) rfl ?_ | (refine CallRG_of (fun hg => CallOK.le (next_ok L) ?_) rfl ?_; focus (simp [argsLe, aLe, csLe, cLe] <;> fail)) | (refine CallRG_of (fun hg => CallOK.le (hsl) ?_) rfl ?_; focus (simp [argsLe, aLe, csLe, cLe] <;> fail)) | (refine CallRG_tt ?_; refine CallR_of (next_ok L) ?_) | (refine CallRG_tt ?_; refine CallR_of (hsl) ?_) | (refine CallRG_tt ?_; refine CallR_of (CallOK.le (next_ok L) ?_) ?_; focus (simp [argsLe, aLe, csLe, cLe] <;> fail)) | (refine CallRG_tt ?_; refine CallR_of (CallOK.le (hsl) ?_) ?_; focus (simp [argsLe, aLe, csLe, cLe] <;> fail)) | with_reducible refine CondR_tt ?_ | with_reducible refine CondR_ff ?_ | refine CallRG_no ?_ | refine CondR_of (fun hb => ?_) (fun hb => ?_) | (refine And.intro ?_ ?_; focus ((try with_reducible refine GIm_of ?_); first | (with_reducible rfl) | (with_reducible refine rng_of ?_; rfl) | (with_reducible refine ordOK_of ?_; kernel_rfl) | (with_reducible refine chk_of ?_; kernel_rfl) | (intros; omega) | (intro q1 q2; rw [q1, q2]; rfl) | (intro q1; rw [q1]; rfl) | (intro q; simp only [Bool.and_eq_true, decide_eq_true_eq, beq_iff_eq] at q; omega) | (intros; simp_all; done) | (intros; simp [List.range, List.range.loop]; done) | (intros; simp_all [List.range, List.range.loop]; done))) | refine And.intro (fun hg => ?_) (fun hg => ?_) | (with_reducible refine chk_of ?_; kernel_rfl) | fail)
      refine CallMJ_of (mv := ?mv2) (lent := ?le2) (x := ?x2) (ass := ?ass2) ?ha2 (hst) ?hr2 rfl ?hs2 ?hb2 ?hc2
      case ha2 => (try simp only [pkS, TyB, Nat.reduceSub, pkY, Int.reduceEq, bne_self_eq_false, Int.reduceBEq, Int.reduceBNe, if_true, if_false, implies_true, Nat.reduceEqDiff, Nat.reduceAdd, Nat.reduceMul, Nat.reduceLeDiff, Nat.reduceLT, Nat.reduceBEq, beq_self_eq_true, reduceCtorEq, imp_self, ne_eq, not_false_eq_true, beq_iff_eq, forall_const, true_implies]); exact rfl
      case hr2 => simp [rosA, roA]
      case hs2 => simp [argsLe, aLe, csLe, cLe]
      case hb2 => (try simp only [pkS, TyB, Nat.reduceSub, scM, if_true, if_false, implies_true, Nat.reduceEqDiff, Nat.reduceAdd, Nat.reduceMul, Nat.reduceLeDiff, Nat.reduceLT, Nat.reduceBEq, beq_self_eq_true, reduceCtorEq, imp_self, ne_eq, not_false_eq_true, beq_iff_eq, forall_const, true_implies]); repeat' (first | rfl | trivial | omega | with_reducible refine And.intro ?_ ?_)
      show aops _ _ _ _ _ _ _ _
      have p1 := phase_ok S
      rw [e1] at p1
      have p2 := next_ok S
      rw [e2] at p2
      repeat' (first | with_reducible refine SeqQ_normal _ _ ?_ | rw [awp_seq] | simp only [pkS, TyB, Nat.reduceSub, hz, pkY, Int.reduceEq, bne_self_eq_false, Int.reduceBEq, Int.reduceBNe, if_true, if_false, implies_true, Nat.reduceEqDiff, Nat.reduceAdd, Nat.reduceMul, Nat.reduceLeDiff, Nat.reduceLT, Nat.reduceBEq, beq_self_eq_true, reduceCtorEq, imp_self, ne_eq, not_false_eq_true, beq_iff_eq, forall_const, true_implies] | refine CallR_of (p1) ?_ | refine CallR_of (p2) ?_ | refine CallR_of (hs0) ?_ | refine CallR_of (hh0) ?_ | refine CallR_of (hawake) ?_ | (refine CallR_of (CallOK.le (p1) ?_) ?_; focus (simp [argsLe, aLe, csLe, cLe] <;> fail)) | (refine CallR_of (CallOK.le (p2) ?_) ?_; focus (simp [argsLe, aLe, csLe, cLe] <;> fail)) | (refine CallR_of (CallOK.le (hs0) ?_) ?_; focus (simp [argsLe, aLe, csLe, cLe] <;> fail)) | (refine CallR_of (CallOK.le (hh0) ?_) ?_; focus (simp [argsLe, aLe, csLe, cLe] <;> fail)) | (refine CallR_of (CallOK.le (hawake) ?_) ?_; focus (simp [argsLe, aLe, csLe, cLe] <;> fail)) | refine CallRG_of (fun hg => p1) rfl ?_ | refine CallRG_of (fun hg => p2) rfl ?_ | refine CallRG_of (fun hg => hs0) rfl ?_ | refine CallRG_of (fun hg => hh0) rfl ?_ | refine CallRG_of (fun hg => hawake) rfl ?_ | (refine CallRG_of (fun hg => CallOK.le (p1) ?_) rfl ?_; focus (simp [argsLe, aLe, csLe, cLe] <;> fail)) | (refine CallRG_of (fun hg => CallOK.le (p2) ?_) rfl ?_; focus (simp [argsLe, aLe, csLe, cLe] <;> fail)) | (refine CallRG_of (fun hg => CallOK.le (hs0) ?_) rfl ?_; focus (simp [argsLe, aLe, csLe, cLe] <;> fail)) | (refine CallRG_of (fun hg => CallOK.le (hh0) ?_) rfl ?_; focus (simp [argsLe, aLe, csLe, cLe] <;> fail)) | (refine CallRG_of (fun hg => CallOK.le (hawake) ?_) rfl ?_; focus (simp [argsLe, aLe, csLe, cLe] <;> fail)) | (refine CallRG_tt ?_; refine CallR_of (p1) ?_) | (refine CallRG_tt ?_; refine CallR_of (p2) ?_) | (refine CallRG_tt ?_; refine CallR_of (hs0) ?_) | (refine CallRG_tt ?_; refine CallR_of (hh0) ?_) | (refine CallRG_tt ?_; refine CallR_of (hawake) ?_) | (refine CallRG_tt ?_; refine CallR_of (CallOK.le (p1) ?_) ?_; focus (simp [argsLe, aLe, csLe, cLe] <;> fail)) | (refine CallRG_tt ?_; refine CallR_of (CallOK.le (p2) ?_) ?_; focus (simp [argsLe, aLe, csLe, cLe] <;> fail)) | (refine CallRG_tt ?_; refine CallR_of (CallOK.le (hs0) ?_) ?_; focus (simp [argsLe, aLe, csLe, cLe] <;> fail)) | (refine CallRG_tt ?_; refine CallR_of (CallOK.le (hh0) ?_) ?_; focus (simp [argsLe, aLe, csLe, cLe] <;> fail)) | (refine CallRG_tt ?_; refine CallR_of (CallOK.le (hawake) ?_) ?_; focus (simp [argsLe, aLe, csLe, cLe] <;> fail)) | with_reducible refine CondR_tt ?_ | with_reducible refine CondR_ff ?_ | refine CallRG_no ?_ | refine CondR_of (fun hb => ?_) (fun hb => ?_) | (refine And.intro ?_ ?_; focus ((try with_reducible refine GIm_of ?_); first | (with_reducible rfl) | (with_reducible refine rng_of ?_; rfl) | (with_reducible refine ordOK_of ?_; kernel_rfl) | (with_reducible refine chk_of ?_; kernel_rfl) | (intros; omega) | (intro q1 q2; rw [q1, q2]; rfl) | (intro q1; rw [q1]; rfl) | (intro q; simp only [Bool.and_eq_true, decide_eq_true_eq, beq_iff_eq] at q; omega) | (intros; simp_all; done) | (intros; simp [List.range, List.range.loop]; done) | (intros; simp_all [List.range, List.range.loop]; done))) | refine And.intro (fun hg => ?_) (fun hg => ?_) | (with_reducible refine chk_of ?_; kernel_rfl) | fail)
    · have hh3 : how.tmod 3 = 1 := hh3
      have hwv1 : IntKind.i64.wrap (v + 1) = v + 1 := wrap64 (by have := hv.1; omega) (by have := hv.2; omega)
      have hst := begin_ok L (v + 1)
      have hbe : beginP L (v + 1) = (⟨L.n, 1, v + 1, [], [], 0, ⟨0, 0⟩, 0⟩, 0) := by
        rw [beginP, if_neg]
        have := hv.1; have := hv.2
        have hH : High = 2305843009213693952 := rfl
        simp [hH]; omega
      rw [hbe] at hst
      obtain ⟨S, hS⟩ : ∃ S : LeadS, S = ⟨L.n, 1, v + 1, [], [], 0, ⟨0, 0⟩, 0⟩ := ⟨_, rfl⟩
      rw [← hS] at hst
      have hs0 := slots_ok S X.done (by rw [hS]; simp) (by rw [hS]; simp)
      have hh0 := heard_ok S (by rw [hS]; simp)
      have e1 : S.phase = 1 := by rw [hS]
      have e2 : S.next = 0 := by rw [hS]
      have e3 : slotsP S X.done = [] := by rw [hS]; rfl
      have e4 : S.heard.map Prom.src = [] := by rw [hS]; rfl
      have e5 : S.view = v + 1 := by rw [hS]
      rw [e3] at hs0
      rw [e4] at hh0
      repeat' (first | with_reducible refine SeqQ_normal _ _ ?_ | rw [awp_seq] | simp only [pkS, TyB, Nat.reduceSub, hwd, hd14, hw2, hh3, hwv, hwv1, pkY, Int.reduceEq, bne_self_eq_false, Int.reduceBEq, Int.reduceBNe, if_true, if_false, implies_true, Nat.reduceEqDiff, Nat.reduceAdd, Nat.reduceMul, Nat.reduceLeDiff, Nat.reduceLT, Nat.reduceBEq, beq_self_eq_true, reduceCtorEq, imp_self, ne_eq, not_false_eq_true, beq_iff_eq, forall_const, true_implies] | refine CallR_of (next_ok L) ?_ | refine CallR_of (hsl) ?_ | (refine CallR_of (CallOK.le (next_ok L) ?_) ?_; focus (simp [argsLe, aLe, csLe, cLe] <;> fail)) | (refine CallR_of (CallOK.le (hsl) ?_) ?_; focus (simp [argsLe, aLe, csLe, cLe] <;> fail)) | refine CallRG_of (fun hg => next_ok L) rfl ?_ | refine CallRG_of (fun hg => hsl) rfl ?_ | (refine CallRG_of (fun hg => CallOK.le (next_ok L) ?_) rfl ?_; focus (simp [argsLe, aLe, csLe, cLe] <;> fail)) | (refine CallRG_of (fun hg => CallOK.le (hsl) ?_) rfl ?_; focus (simp [argsLe, aLe, csLe, cLe] <;> fail)) | (refine CallRG_tt ?_; refine CallR_of (next_ok L) ?_) | (refine CallRG_tt ?_; refine CallR_of (hsl) ?_) | (refine CallRG_tt ?_; refine CallR_of (CallOK.le (next_ok L) ?_) ?_; focus (simp [argsLe, aLe, csLe, cLe] <;> fail)) | (refine CallRG_tt ?_; refine CallR_of (CallOK.le (hsl) ?_) ?_; focus (simp [argsLe, aLe, csLe, cLe] <;> fail)) | with_reducible refine CondR_tt ?_ | with_reducible refine CondR_ff ?_ | refine CallRG_no ?_ | refine CondR_of (fun hb => ?_) (fun hb => ?_) | (refine And.intro ?_ ?_; focus ((try with_reducible refine GIm_of ?_); first | (with_reducible rfl) | (with_reducible refine rng_of ?_; rfl) | (with_reducible refine ordOK_of ?_; kernel_rfl) | (with_reducible refine chk_of ?_; kernel_rfl) | (intros; omega) | (intro q1 q2; rw [q1, q2]; rfl) | (intro q1; rw [q1]; rfl) | (intro q; simp only [Bool.and_eq_true, decide_eq_true_eq, beq_iff_eq] at q; omega) | (intros; simp_all; done) | (intros; simp [List.range, List.range.loop]; done) | (intros; simp_all [List.range, List.range.loop]; done))) | refine And.intro (fun hg => ?_) (fun hg => ?_) | (with_reducible refine chk_of ?_; kernel_rfl) | fail)
      refine CallMJ_of (mv := ?mv3) (lent := ?le3) (x := ?x3) (ass := ?ass3) ?ha3 (hst) ?hr3 rfl ?hs3 ?hb3 ?hc3
      case ha3 => (try simp only [pkS, TyB, Nat.reduceSub, pkY, Int.reduceEq, bne_self_eq_false, Int.reduceBEq, Int.reduceBNe, hwv1, if_true, if_false, implies_true, Nat.reduceEqDiff, Nat.reduceAdd, Nat.reduceMul, Nat.reduceLeDiff, Nat.reduceLT, Nat.reduceBEq, beq_self_eq_true, reduceCtorEq, imp_self, ne_eq, not_false_eq_true, beq_iff_eq, forall_const, true_implies]); exact rfl
      case hr3 => simp [rosA, roA, hwv1]
      case hs3 => simp [argsLe, aLe, csLe, cLe, hwv1]
      case hb3 => (try simp only [pkS, TyB, Nat.reduceSub, scM, hwv1, if_true, if_false, implies_true, Nat.reduceEqDiff, Nat.reduceAdd, Nat.reduceMul, Nat.reduceLeDiff, Nat.reduceLT, Nat.reduceBEq, beq_self_eq_true, reduceCtorEq, imp_self, ne_eq, not_false_eq_true, beq_iff_eq, forall_const, true_implies]); repeat' (first | rfl | trivial | omega | with_reducible refine And.intro ?_ ?_)
      show aops _ _ _ _ _ _ _ _
      have p1 := phase_ok S
      rw [e1] at p1
      have p2 := next_ok S
      rw [e2] at p2
      have p3 := view_ok S
      rw [e5] at p3
      have hvv : (v + 1 == v + 1) = true := by simp
      repeat' (first | with_reducible refine SeqQ_normal _ _ ?_ | rw [awp_seq] | simp only [pkS, TyB, Nat.reduceSub, hwv, hwv1, hz, hvv, pkY, Int.reduceEq, bne_self_eq_false, Int.reduceBEq, Int.reduceBNe, if_true, if_false, implies_true, Nat.reduceEqDiff, Nat.reduceAdd, Nat.reduceMul, Nat.reduceLeDiff, Nat.reduceLT, Nat.reduceBEq, beq_self_eq_true, reduceCtorEq, imp_self, ne_eq, not_false_eq_true, beq_iff_eq, forall_const, true_implies] | refine CallR_of (p1) ?_ | refine CallR_of (p3) ?_ | refine CallR_of (p2) ?_ | refine CallR_of (hs0) ?_ | refine CallR_of (hh0) ?_ | refine CallR_of (hawake) ?_ | (refine CallR_of (CallOK.le (p1) ?_) ?_; focus (simp [argsLe, aLe, csLe, cLe] <;> fail)) | (refine CallR_of (CallOK.le (p3) ?_) ?_; focus (simp [argsLe, aLe, csLe, cLe] <;> fail)) | (refine CallR_of (CallOK.le (p2) ?_) ?_; focus (simp [argsLe, aLe, csLe, cLe] <;> fail)) | (refine CallR_of (CallOK.le (hs0) ?_) ?_; focus (simp [argsLe, aLe, csLe, cLe] <;> fail)) | (refine CallR_of (CallOK.le (hh0) ?_) ?_; focus (simp [argsLe, aLe, csLe, cLe] <;> fail)) | (refine CallR_of (CallOK.le (hawake) ?_) ?_; focus (simp [argsLe, aLe, csLe, cLe] <;> fail)) | refine CallRG_of (fun hg => p1) rfl ?_ | refine CallRG_of (fun hg => p3) rfl ?_ | refine CallRG_of (fun hg => p2) rfl ?_ | refine CallRG_of (fun hg => hs0) rfl ?_ | refine CallRG_of (fun hg => hh0) rfl ?_ | refine CallRG_of (fun hg => hawake) rfl ?_ | (refine CallRG_of (fun hg => CallOK.le (p1) ?_) rfl ?_; focus (simp [argsLe, aLe, csLe, cLe] <;> fail)) | (refine CallRG_of (fun hg => CallOK.le (p3) ?_) rfl ?_; focus (simp [argsLe, aLe, csLe, cLe] <;> fail)) | (refine CallRG_of (fun hg => CallOK.le (p2) ?_) rfl ?_; focus (simp [argsLe, aLe, csLe, cLe] <;> fail)) | (refine CallRG_of (fun hg => CallOK.le (hs0) ?_) rfl ?_; focus (simp [argsLe, aLe, csLe, cLe] <;> fail)) | (refine CallRG_of (fun hg => CallOK.le (hh0) ?_) rfl ?_; focus (simp [argsLe, aLe, csLe, cLe] <;> fail)) | (refine CallRG_of (fun hg => CallOK.le (hawake) ?_) rfl ?_; focus (simp [argsLe, aLe, csLe, cLe] <;> fail)) | (refine CallRG_tt ?_; refine CallR_of (p1) ?_) | (refine CallRG_tt ?_; refine CallR_of (p3) ?_) | (refine CallRG_tt ?_; refine CallR_of (p2) ?_) | (refine CallRG_tt ?_; refine CallR_of (hs0) ?_) | (refine CallRG_tt ?_; refine CallR_of (hh0) ?_) | (refine CallRG_tt ?_; refine CallR_of (hawake) ?_) | (refine CallRG_tt ?_; refine CallR_of (CallOK.le (p1) ?_) ?_; focus (simp [argsLe, aLe, csLe, cLe] <;> fail)) | (refine CallRG_tt ?_; refine CallR_of (CallOK.le (p3) ?_) ?_; focus (simp [argsLe, aLe, csLe, cLe] <;> fail)) | (refine CallRG_tt ?_; refine CallR_of (CallOK.le (p2) ?_) ?_; focus (simp [argsLe, aLe, csLe, cLe] <;> fail)) | (refine CallRG_tt ?_; refine CallR_of (CallOK.le (hs0) ?_) ?_; focus (simp [argsLe, aLe, csLe, cLe] <;> fail)) | (refine CallRG_tt ?_; refine CallR_of (CallOK.le (hh0) ?_) ?_; focus (simp [argsLe, aLe, csLe, cLe] <;> fail)) | (refine CallRG_tt ?_; refine CallR_of (CallOK.le (hawake) ?_) ?_; focus (simp [argsLe, aLe, csLe, cLe] <;> fail)) | with_reducible refine CondR_tt ?_ | with_reducible refine CondR_ff ?_ | refine CallRG_no ?_ | refine CondR_of (fun hb => ?_) (fun hb => ?_) | (refine And.intro ?_ ?_; focus ((try with_reducible refine GIm_of ?_); first | (with_reducible rfl) | (with_reducible refine rng_of ?_; rfl) | (with_reducible refine ordOK_of ?_; kernel_rfl) | (with_reducible refine chk_of ?_; kernel_rfl) | (intros; omega) | (intro q1 q2; rw [q1, q2]; rfl) | (intro q1; rw [q1]; rfl) | (intro q; simp only [Bool.and_eq_true, decide_eq_true_eq, beq_iff_eq] at q; omega) | (intros; simp_all; done) | (intros; simp [List.range, List.range.loop]; done) | (intros; simp_all [List.range, List.range.loop]; done))) | refine And.intro (fun hg => ?_) (fun hg => ?_) | (with_reducible refine chk_of ?_; kernel_rfl) | fail)
    · have hh3 : how.tmod 3 = 2 := hh3
      have hst := trim_ok L (X.done + (e : Int)) hs30
      obtain ⟨S, hS⟩ : ∃ S, S = trimP L (X.done + (e : Int)) := ⟨_, rfl⟩
      rw [← hS] at hst
      repeat' (first | with_reducible refine SeqQ_normal _ _ ?_ | rw [awp_seq] | simp only [pkS, TyB, Nat.reduceSub, hwd, hd14, hw2, hh3, pkY, Int.reduceEq, bne_self_eq_false, Int.reduceBEq, Int.reduceBNe, if_true, if_false, implies_true, Nat.reduceEqDiff, Nat.reduceAdd, Nat.reduceMul, Nat.reduceLeDiff, Nat.reduceLT, Nat.reduceBEq, beq_self_eq_true, reduceCtorEq, imp_self, ne_eq, not_false_eq_true, beq_iff_eq, forall_const, true_implies] | refine CallR_of (next_ok L) ?_ | refine CallR_of (hsl) ?_ | (refine CallR_of (CallOK.le (next_ok L) ?_) ?_; focus (simp [argsLe, aLe, csLe, cLe] <;> fail)) | (refine CallR_of (CallOK.le (hsl) ?_) ?_; focus (simp [argsLe, aLe, csLe, cLe] <;> fail)) | refine CallRG_of (fun hg => next_ok L) rfl ?_ | refine CallRG_of (fun hg => hsl) rfl ?_ | (refine CallRG_of (fun hg => CallOK.le (next_ok L) ?_) rfl ?_; focus (simp [argsLe, aLe, csLe, cLe] <;> fail)) | (refine CallRG_of (fun hg => CallOK.le (hsl) ?_) rfl ?_; focus (simp [argsLe, aLe, csLe, cLe] <;> fail)) | (refine CallRG_tt ?_; refine CallR_of (next_ok L) ?_) | (refine CallRG_tt ?_; refine CallR_of (hsl) ?_) | (refine CallRG_tt ?_; refine CallR_of (CallOK.le (next_ok L) ?_) ?_; focus (simp [argsLe, aLe, csLe, cLe] <;> fail)) | (refine CallRG_tt ?_; refine CallR_of (CallOK.le (hsl) ?_) ?_; focus (simp [argsLe, aLe, csLe, cLe] <;> fail)) | with_reducible refine CondR_tt ?_ | with_reducible refine CondR_ff ?_ | refine CallRG_no ?_ | refine CondR_of (fun hb => ?_) (fun hb => ?_) | (refine And.intro ?_ ?_; focus ((try with_reducible refine GIm_of ?_); first | (with_reducible rfl) | (with_reducible refine rng_of ?_; rfl) | (with_reducible refine ordOK_of ?_; kernel_rfl) | (with_reducible refine chk_of ?_; kernel_rfl) | (intros; omega) | (intro q1 q2; rw [q1, q2]; rfl) | (intro q1; rw [q1]; rfl) | (intro q; simp only [Bool.and_eq_true, decide_eq_true_eq, beq_iff_eq] at q; omega) | (intros; simp_all; done) | (intros; simp [List.range, List.range.loop]; done) | (intros; simp_all [List.range, List.range.loop]; done))) | refine And.intro (fun hg => ?_) (fun hg => ?_) | (with_reducible refine chk_of ?_; kernel_rfl) | fail)
      refine CallMJ_of (mv := ?mv4) (lent := ?le4) (x := ?x4) (ass := ?ass4) ?ha4 (hst) ?hr4 rfl ?hs4 ?hb4 ?hc4
      case ha4 => (try simp only [pkS, TyB, Nat.reduceSub, pkY, Int.reduceEq, bne_self_eq_false, Int.reduceBEq, Int.reduceBNe, if_true, if_false, implies_true, Nat.reduceEqDiff, Nat.reduceAdd, Nat.reduceMul, Nat.reduceLeDiff, Nat.reduceLT, Nat.reduceBEq, beq_self_eq_true, reduceCtorEq, imp_self, ne_eq, not_false_eq_true, beq_iff_eq, forall_const, true_implies]); exact rfl
      case hr4 => simp [rosA, roA]
      case hs4 => simp [argsLe, aLe, csLe, cLe]
      case hb4 => (try simp only [pkS, TyB, Nat.reduceSub, scM, if_true, if_false, implies_true, Nat.reduceEqDiff, Nat.reduceAdd, Nat.reduceMul, Nat.reduceLeDiff, Nat.reduceLT, Nat.reduceBEq, beq_self_eq_true, reduceCtorEq, imp_self, ne_eq, not_false_eq_true, beq_iff_eq, forall_const, true_implies]); repeat' (first | rfl | trivial | omega | with_reducible refine And.intro ?_ ?_)
      show aops _ _ _ _ _ _ _ _
      cases hge : decide (X.done + (e : Int) ≥ L.next)
      · have hSt : S = { L with slots := L.slots.filter fun w => !decide (w.slot ≤ X.done + (e : Int)) } := by rw [hS, trimP, if_neg (by rw [hL.ph]; simp), if_neg (by rw [hge]; simp)]
        have hfl : ∀ w ∈ S.slots, voteFit w := by rw [hSt]; intro w hw; exact hL.sv w (List.mem_filter.1 hw).1
        have hfn : S.slots.length < 2 ^ 30 := by rw [hSt]; exact Nat.lt_of_le_of_lt (List.length_filter_le _ _) hs30
        have hs0 := slots_ok S X.done hfn hfl
        have e1 : S.phase = 2 := by rw [hSt]; exact hL.ph
        have e2 : S.next = L.next := by rw [hSt]
        have e3 : slotsP S X.done = (slotsP L X.done).filter fun w => !decide (w.slot ≤ X.done + (e : Int)) := by
          rw [hSt]
          simp only [slotsP, hL.ph]
          rw [if_neg (by simp), if_neg (by simp), List.filter_filter, List.filter_filter]
          congr 1
          funext w
          rw [Bool.and_comm]
        have hwas : (slotsP L X.done).length < 2 ^ 30 ∧ ∀ w ∈ slotsP L X.done, voteFit w := by
          simp only [slotsP, hL.ph]
          rw [if_neg (by simp)]
          exact ⟨Nat.lt_of_le_of_lt (List.length_filter_le _ _) hs30, fun w hw => hL.sv w (List.mem_filter.1 hw).1⟩
        rw [e3] at hs0
        obtain ⟨W, hW⟩ : ∃ W, W = slotsP L X.done := ⟨_, rfl⟩
        rw [← hW] at hs0 hsl hwas
        have hwn : (W.filter fun w => !decide (w.slot ≤ X.done + (e : Int))).length < 2 ^ 30 := Nat.lt_of_le_of_lt (List.length_filter_le _ _) hwas.1
        obtain ⟨Z, hZ⟩ : ∃ Z, Z = W.filter fun w => !decide (w.slot ≤ X.done + (e : Int)) := ⟨_, rfl⟩
        rw [← hZ] at hs0 hwn
        repeat' (first | with_reducible refine SeqQ_normal _ _ ?_ | rw [awp_seq] | simp only [pkS, TyB, Nat.reduceSub, hge, ← hW, pkY, Int.reduceEq, bne_self_eq_false, Int.reduceBEq, Int.reduceBNe, if_true, if_false, implies_true, Nat.reduceEqDiff, Nat.reduceAdd, Nat.reduceMul, Nat.reduceLeDiff, Nat.reduceLT, Nat.reduceBEq, beq_self_eq_true, reduceCtorEq, imp_self, ne_eq, not_false_eq_true, beq_iff_eq, forall_const, true_implies] | refine CallR_of (hs0) ?_ | (refine CallR_of (CallOK.le (hs0) ?_) ?_; focus (simp [argsLe, aLe, csLe, cLe] <;> fail)) | refine CallRG_of (fun hg => hs0) rfl ?_ | (refine CallRG_of (fun hg => CallOK.le (hs0) ?_) rfl ?_; focus (simp [argsLe, aLe, csLe, cLe] <;> fail)) | (refine CallRG_tt ?_; refine CallR_of (hs0) ?_) | (refine CallRG_tt ?_; refine CallR_of (CallOK.le (hs0) ?_) ?_; focus (simp [argsLe, aLe, csLe, cLe] <;> fail)) | with_reducible refine CondR_tt ?_ | with_reducible refine CondR_ff ?_ | refine CallRG_no ?_ | refine CondR_of (fun hb => ?_) (fun hb => ?_) | (refine And.intro ?_ ?_; focus ((try with_reducible refine GIm_of ?_); first | (with_reducible rfl) | (with_reducible refine rng_of ?_; rfl) | (with_reducible refine ordOK_of ?_; kernel_rfl) | (with_reducible refine chk_of ?_; kernel_rfl) | (intros; omega) | (intro q1 q2; rw [q1, q2]; rfl) | (intro q1; rw [q1]; rfl) | (intro q; simp only [Bool.and_eq_true, decide_eq_true_eq, beq_iff_eq] at q; omega) | (intros; simp_all; done) | (intros; simp [List.range, List.range.loop]; done) | (intros; simp_all [List.range, List.range.loop]; done))) | refine And.intro (fun hg => ?_) (fun hg => ?_) | (with_reducible refine chk_of ?_; kernel_rfl) | fail)
        have hp1 := phase_ok S
        rw [e1] at hp1
        have hp2 := next_ok S
        rw [e2] at hp2
        clear hsl hst hs0 hS hSt hge
        refine LoopR_ix Ty Try.prog (τ := Nat × Nat) (fun t => ⟨[dd, dd, dd, dd, dd, dd, dd, dd, dd, dd, dd, dd, dd, .one (.ptr ⟨27, 0, 1⟩ 0), dd, dd, ai L.next, .one (.own ⟨17, 1, 1⟩ 0 W.length), ai (X.done + (e : Int)), dd, .one (.own ⟨20, 1, 1⟩ 0 Z.length), ai t.2, ai t.1, dd, dd, dd, dd, dd, dd, dd, dd, dd, dd, dd, dd, dd, dd, dd, dd, dd, dd, dd, dd, dd, dd, dd, dd, dd, dd, dd, dd, dd, dd, dd, dd, dd, dd, dd, dd, dd, dd, dd, dd, dd, dd, dd, dd, dd, dd, dd, dd, dd, dd, dd, dd, dd, dd, dd, dd, dd, dd, dd, dd, dd, dd, dd, dd, dd, dd, dd, dd, dd, dd, dd, dd, dd, dd, dd, dd, dd, dd, dd, dd, dd, dd, dd, dd, dd, dd, dd, dd, dd, dd, dd, dd, dd, dd, dd, dd, dd, dd, dd, dd, dd, dd, dd, dd, dd, dd, dd, dd, dd, dd, dd, dd, dd, dd, dd, dd, dd, dd, dd, dd, dd, dd, dd, dd, dd, dd, dd, dd, dd, dd, dd, dd, dd, dd, dd, dd, dd, dd, dd, dd, dd, dd, dd, dd, dd, dd, dd, dd, dd, dd, dd, dd, dd, dd, dd, dd, dd, dd, dd, dd, dd, dd, dd, dd, dd, dd, dd, dd, dd, dd, dd, dd, dd, dd, dd, dd, dd, dd, dd, dd, dd, dd, dd, dd, dd, dd, dd, dd, dd, dd],
            [(7, ⟨2, []⟩), (8, ⟨2, []⟩), (27, { next := 2, l := [some { e := 1, var := true, fz := false, sz := 0, cells := [di S.n, di S.phase, di S.view, .own ⟨27, 4, 1⟩ 0 S.heard.length, .own ⟨27, 5, 1⟩ 0 S.slots.length, di S.next, di S.tip.view, di S.tip.slot, di S.time] }, none, none, none, some { e := 1, var := false, fz := false, sz := 6, cells := (promisesE S.heard).map C.d }, some { e := 1, var := false, fz := false, sz := 8, cells := (votesE S.slots).map C.d }, none, none, none, none] }), (1000027, ⟨2, []⟩), (14, ⟨2, []⟩), (54, ⟨2, []⟩), (17, { next := 2, l := [none, some { e := 1, var := false, fz := false, sz := 8, cells := (votesE W).map C.d }] }), (161, ⟨2, []⟩), (20, { next := 2, l := [none, some { e := 1, var := false, fz := false, sz := 8, cells := (votesE Z).map C.d }] })]⟩)
          (fun t => t.1 ≤ W.length ∧ t.2 ≤ Z.length ∧ Z.drop t.2 = (W.drop t.1).filter fun w => !decide (w.slot ≤ X.done + (e : Int))) (fun t => W.length - t.1) (0, 0)
          (Gh.canon [27, 17, 20] [] [] (by simp only [fgc_dead, fgc_dv, fgc_lent, fgc_nil, fgc_ptr, fgc_own, List.set_cons_zero, List.set_cons_succ, and_true, true_and, Int.natCast_zero, Int.cast_ofNat_Int, D.v.injEq, Value.int.injEq]; try (repeat' (first | rfl | omega | with_reducible apply And.intro))) rfl rfl) ⟨Nat.zero_le _, Nat.zero_le _, by rw [hZ]; rfl⟩ ?_
        intro ⟨j, k⟩ ⟨hj0, hk0, hZd⟩ K hK
        simp only at hj0 hk0 hZd hK ⊢
        repeat (first | with_reducible refine SeqQ_normal _ _ ?_ | with_reducible refine And.imp_right (SeqQ_normal _ _) ?_ | with_reducible refine And.imp_right (And.imp_right (SeqQ_normal _ _)) ?_ | with_reducible refine And.imp_right (And.imp_right (And.imp_right (SeqQ_normal _ _))) ?_ | rw [awp_seq] | simp only [pkS, TyB, Nat.reduceSub,  if_true, if_false, implies_true, Nat.reduceEqDiff, Nat.reduceAdd, Nat.reduceMul, Nat.reduceLeDiff, Nat.reduceLT, Nat.reduceBEq, beq_self_eq_true, reduceCtorEq, imp_self, ne_eq, not_false_eq_true, beq_iff_eq, forall_const, true_implies])
        refine CondR_of (fun hlt => ?_) (fun hge => ?_)
        · have hj : j < W.length := by simpa using hlt
          have hat := votes_at hj
          simp only [List.cons_append, List.nil_append] at hat
          have hwj := i64_succ hj (by omega)
          rw [List.drop_eq_getElem_cons hj, List.filter_cons] at hZd
          have hv1 := hwas.2 _ (List.getElem_mem hj)
          cases hc : decide (W[j].slot > X.done + (e : Int))
          · have hc' : ¬ (!decide (W[j].slot ≤ X.done + (e : Int))) = true := by simp at hc ⊢; omega
            rw [if_neg hc'] at hZd
            repeat' (first | with_reducible refine SeqQ_normal _ _ ?_ | rw [awp_seq] | simp only [pkS, TyB, Nat.reduceSub, hat, votes_len, ← List.map_drop, List.map_cons, hc, pkY, Int.reduceEq, bne_self_eq_false, Int.reduceBEq, Int.reduceBNe, if_true, if_false, implies_true, Nat.reduceEqDiff, Nat.reduceAdd, Nat.reduceMul, Nat.reduceLeDiff, Nat.reduceLT, Nat.reduceBEq, beq_self_eq_true, reduceCtorEq, imp_self, ne_eq, not_false_eq_true, beq_iff_eq, forall_const, true_implies] | with_reducible refine CondR_tt ?_ | with_reducible refine CondR_ff ?_ | refine CallRG_no ?_ | refine CondR_of (fun hb => ?_) (fun hb => ?_) | (refine And.intro ?_ ?_; focus ((try with_reducible refine GIm_of ?_); first | (with_reducible rfl) | (with_reducible refine rng_of ?_; rfl) | (with_reducible refine ordOK_of ?_; kernel_rfl) | (with_reducible refine chk_of ?_; kernel_rfl) | (intros; omega) | (intro q1 q2; rw [q1, q2]; rfl) | (intro q1; rw [q1]; rfl) | (intro q; simp only [Bool.and_eq_true, decide_eq_true_eq, beq_iff_eq] at q; omega) | (intros; simp_all; done) | (intros; simp [List.range, List.range.loop]; done) | (intros; simp_all [List.range, List.range.loop]; done))) | refine And.intro (fun hg => ?_) (fun hg => ?_) | (with_reducible refine chk_of ?_; kernel_rfl) | fail)
            exact hK _ (j + 1, k) (Gh.canon [27, 17, 20] [] [] (by simp only [hwj, fgc_dead, fgc_dv, fgc_lent, fgc_nil, fgc_ptr, fgc_own, List.set_cons_zero, List.set_cons_succ, and_true, true_and, Int.natCast_zero, Int.cast_ofNat_Int, D.v.injEq, Value.int.injEq]; try (repeat' (first | rfl | omega | with_reducible apply And.intro))) rfl rfl) ⟨hj, hk0, hZd⟩ (by simp only; omega)
          · have hc' : (!decide (W[j].slot ≤ X.done + (e : Int))) = true := by simp at hc ⊢; omega
            rw [if_pos hc'] at hZd
            have hk : k < Z.length := by
              rcases Nat.lt_or_ge k Z.length with h | h
              · exact h
              · rw [List.drop_of_length_le h] at hZd; cases hZd
            have hzk : Z[k] = W[j] ∧ Z.drop (k + 1) = (W.drop (j + 1)).filter fun w => !decide (w.slot ≤ X.done + (e : Int)) := by
              rw [List.drop_eq_getElem_cons hk] at hZd
              exact ⟨(List.cons.inj hZd).1, (List.cons.inj hZd).2⟩
            have hat2 := votes_at hk
            rw [hzk.1] at hat2
            simp only [List.cons_append, List.nil_append] at hat2
            have hwk := i64_succ hk (by omega)
            have hkc : decide ((k : Int) ≥ (Z.length : Int)) = false := by simp; omega
            have hsame := sameVotes_ok [W[j]] (by simp) (by intro w hw; simp at hw; subst hw; have := hv1.2.2; omega)
            repeat' (first | with_reducible refine SeqQ_normal _ _ ?_ | rw [awp_seq] | simp only [pkS, TyB, Nat.reduceSub, hat, hat2, votes_len, ← List.map_drop, List.map_cons, hc, hwk, hwj, hkc, Nat.add_sub_cancel_left, pkY, Int.reduceEq, bne_self_eq_false, Int.reduceBEq, Int.reduceBNe, if_true, if_false, implies_true, Nat.reduceEqDiff, Nat.reduceAdd, Nat.reduceMul, Nat.reduceLeDiff, Nat.reduceLT, Nat.reduceBEq, beq_self_eq_true, reduceCtorEq, imp_self, ne_eq, not_false_eq_true, beq_iff_eq, forall_const, true_implies] | refine CallR_of (hsame) ?_ | (refine CallR_of (CallOK.le (hsame) ?_) ?_; focus (simp [argsLe, aLe, csLe, cLe] <;> fail)) | refine CallRG_of (fun hg => hsame) rfl ?_ | (refine CallRG_of (fun hg => CallOK.le (hsame) ?_) rfl ?_; focus (simp [argsLe, aLe, csLe, cLe] <;> fail)) | (refine CallRG_tt ?_; refine CallR_of (hsame) ?_) | (refine CallRG_tt ?_; refine CallR_of (CallOK.le (hsame) ?_) ?_; focus (simp [argsLe, aLe, csLe, cLe] <;> fail)) | with_reducible refine CondR_tt ?_ | with_reducible refine CondR_ff ?_ | refine CallRG_no ?_ | refine CondR_of (fun hb => ?_) (fun hb => ?_) | (refine And.intro ?_ ?_; focus ((try with_reducible refine GIm_of ?_); first | (with_reducible rfl) | (with_reducible refine rng_of ?_; rfl) | (with_reducible refine ordOK_of ?_; kernel_rfl) | (with_reducible refine chk_of ?_; kernel_rfl) | (intros; omega) | (intro q1 q2; rw [q1, q2]; rfl) | (intro q1; rw [q1]; rfl) | (intro q; simp only [Bool.and_eq_true, decide_eq_true_eq, beq_iff_eq] at q; omega) | (intros; simp_all; done) | (intros; simp [List.range, List.range.loop]; done) | (intros; simp_all [List.range, List.range.loop]; done))) | refine And.intro (fun hg => ?_) (fun hg => ?_) | (with_reducible refine chk_of ?_; kernel_rfl) | fail)
            exact hK _ (j + 1, k + 1) (Gh.canon [27, 17, 20] [] [] (by simp only [fgc_dead, fgc_dv, fgc_lent, fgc_nil, fgc_ptr, fgc_own, List.set_cons_zero, List.set_cons_succ, and_true, true_and, Int.natCast_zero, Int.cast_ofNat_Int, D.v.injEq, Value.int.injEq]; try (repeat' (first | rfl | omega | with_reducible apply And.intro))) rfl rfl) ⟨hj, hk, hzk.2⟩ (by simp only; omega)
        · have hj : j = W.length := by
            have : ¬ (j : Int) < W.length := by simpa using hge
            omega
          rw [hj, List.drop_length, List.filter_nil] at hZd
          have hk : k = Z.length := by
            have := congrArg List.length hZd
            simp at this; omega
          have hkk : ((k : Int) == (Z.length : Int)) = true := by rw [hk]; simp
          have hnn : (L.next == L.next) = true := by simp
          repeat' (first | with_reducible refine SeqQ_normal _ _ ?_ | rw [awp_seq] | simp only [pkS, TyB, Nat.reduceSub, hkk, hnn, pkY, Int.reduceEq, bne_self_eq_false, Int.reduceBEq, Int.reduceBNe, if_true, if_false, implies_true, Nat.reduceEqDiff, Nat.reduceAdd, Nat.reduceMul, Nat.reduceLeDiff, Nat.reduceLT, Nat.reduceBEq, beq_self_eq_true, reduceCtorEq, imp_self, ne_eq, not_false_eq_true, beq_iff_eq, forall_const, true_implies] | refine CallR_of (hp1) ?_ | refine CallR_of (hp2) ?_ | refine CallR_of (hawake) ?_ | (refine CallR_of (CallOK.le (hp1) ?_) ?_; focus (simp [argsLe, aLe, csLe, cLe] <;> fail)) | (refine CallR_of (CallOK.le (hp2) ?_) ?_; focus (simp [argsLe, aLe, csLe, cLe] <;> fail)) | (refine CallR_of (CallOK.le (hawake) ?_) ?_; focus (simp [argsLe, aLe, csLe, cLe] <;> fail)) | refine CallRG_of (fun hg => hp1) rfl ?_ | refine CallRG_of (fun hg => hp2) rfl ?_ | refine CallRG_of (fun hg => hawake) rfl ?_ | (refine CallRG_of (fun hg => CallOK.le (hp1) ?_) rfl ?_; focus (simp [argsLe, aLe, csLe, cLe] <;> fail)) | (refine CallRG_of (fun hg => CallOK.le (hp2) ?_) rfl ?_; focus (simp [argsLe, aLe, csLe, cLe] <;> fail)) | (refine CallRG_of (fun hg => CallOK.le (hawake) ?_) rfl ?_; focus (simp [argsLe, aLe, csLe, cLe] <;> fail)) | (refine CallRG_tt ?_; refine CallR_of (hp1) ?_) | (refine CallRG_tt ?_; refine CallR_of (hp2) ?_) | (refine CallRG_tt ?_; refine CallR_of (hawake) ?_) | (refine CallRG_tt ?_; refine CallR_of (CallOK.le (hp1) ?_) ?_; focus (simp [argsLe, aLe, csLe, cLe] <;> fail)) | (refine CallRG_tt ?_; refine CallR_of (CallOK.le (hp2) ?_) ?_; focus (simp [argsLe, aLe, csLe, cLe] <;> fail)) | (refine CallRG_tt ?_; refine CallR_of (CallOK.le (hawake) ?_) ?_; focus (simp [argsLe, aLe, csLe, cLe] <;> fail)) | with_reducible refine CondR_tt ?_ | with_reducible refine CondR_ff ?_ | refine CallRG_no ?_ | refine CondR_of (fun hb => ?_) (fun hb => ?_) | (refine And.intro ?_ ?_; focus ((try with_reducible refine GIm_of ?_); first | (with_reducible rfl) | (with_reducible refine rng_of ?_; rfl) | (with_reducible refine ordOK_of ?_; kernel_rfl) | (with_reducible refine chk_of ?_; kernel_rfl) | (intros; omega) | (intro q1 q2; rw [q1, q2]; rfl) | (intro q1; rw [q1]; rfl) | (intro q; simp only [Bool.and_eq_true, decide_eq_true_eq, beq_iff_eq] at q; omega) | (intros; simp_all; done) | (intros; simp [List.range, List.range.loop]; done) | (intros; simp_all [List.range, List.range.loop]; done))) | refine And.intro (fun hg => ?_) (fun hg => ?_) | (with_reducible refine chk_of ?_; kernel_rfl) | fail)
      · have hSt : S = stopP L := by rw [hS, trimP, if_neg (by rw [hL.ph]; simp), if_pos hge]
        have hs0 := slots_ok S (X.done + (e : Int)) (by rw [hSt]; simp [stopP]) (by rw [hSt]; simp [stopP])
        have e1 : S.phase = 0 := by rw [hSt]; rfl
        have e2 : S.next = 0 := by rw [hSt]; rfl
        have e3 : slotsP S (X.done + (e : Int)) = [] := by rw [hSt]; rfl
        rw [e3] at hs0
        have p1 := phase_ok S
        rw [e1] at p1
        have p2 := next_ok S
        rw [e2] at p2
        repeat' (first | with_reducible refine SeqQ_normal _ _ ?_ | rw [awp_seq] | simp only [pkS, TyB, Nat.reduceSub, hge, hz, pkY, Int.reduceEq, bne_self_eq_false, Int.reduceBEq, Int.reduceBNe, if_true, if_false, implies_true, Nat.reduceEqDiff, Nat.reduceAdd, Nat.reduceMul, Nat.reduceLeDiff, Nat.reduceLT, Nat.reduceBEq, beq_self_eq_true, reduceCtorEq, imp_self, ne_eq, not_false_eq_true, beq_iff_eq, forall_const, true_implies] | refine CallR_of (p1) ?_ | refine CallR_of (p2) ?_ | refine CallR_of (hs0) ?_ | refine CallR_of (hawake) ?_ | (refine CallR_of (CallOK.le (p1) ?_) ?_; focus (simp [argsLe, aLe, csLe, cLe] <;> fail)) | (refine CallR_of (CallOK.le (p2) ?_) ?_; focus (simp [argsLe, aLe, csLe, cLe] <;> fail)) | (refine CallR_of (CallOK.le (hs0) ?_) ?_; focus (simp [argsLe, aLe, csLe, cLe] <;> fail)) | (refine CallR_of (CallOK.le (hawake) ?_) ?_; focus (simp [argsLe, aLe, csLe, cLe] <;> fail)) | refine CallRG_of (fun hg => p1) rfl ?_ | refine CallRG_of (fun hg => p2) rfl ?_ | refine CallRG_of (fun hg => hs0) rfl ?_ | refine CallRG_of (fun hg => hawake) rfl ?_ | (refine CallRG_of (fun hg => CallOK.le (p1) ?_) rfl ?_; focus (simp [argsLe, aLe, csLe, cLe] <;> fail)) | (refine CallRG_of (fun hg => CallOK.le (p2) ?_) rfl ?_; focus (simp [argsLe, aLe, csLe, cLe] <;> fail)) | (refine CallRG_of (fun hg => CallOK.le (hs0) ?_) rfl ?_; focus (simp [argsLe, aLe, csLe, cLe] <;> fail)) | (refine CallRG_of (fun hg => CallOK.le (hawake) ?_) rfl ?_; focus (simp [argsLe, aLe, csLe, cLe] <;> fail)) | (refine CallRG_tt ?_; refine CallR_of (p1) ?_) | (refine CallRG_tt ?_; refine CallR_of (p2) ?_) | (refine CallRG_tt ?_; refine CallR_of (hs0) ?_) | (refine CallRG_tt ?_; refine CallR_of (hawake) ?_) | (refine CallRG_tt ?_; refine CallR_of (CallOK.le (p1) ?_) ?_; focus (simp [argsLe, aLe, csLe, cLe] <;> fail)) | (refine CallRG_tt ?_; refine CallR_of (CallOK.le (p2) ?_) ?_; focus (simp [argsLe, aLe, csLe, cLe] <;> fail)) | (refine CallRG_tt ?_; refine CallR_of (CallOK.le (hs0) ?_) ?_; focus (simp [argsLe, aLe, csLe, cLe] <;> fail)) | (refine CallRG_tt ?_; refine CallR_of (CallOK.le (hawake) ?_) ?_; focus (simp [argsLe, aLe, csLe, cLe] <;> fail)) | with_reducible refine CondR_tt ?_ | with_reducible refine CondR_ff ?_ | refine CallRG_no ?_ | refine CondR_of (fun hb => ?_) (fun hb => ?_) | (refine And.intro ?_ ?_; focus ((try with_reducible refine GIm_of ?_); first | (with_reducible rfl) | (with_reducible refine rng_of ?_; rfl) | (with_reducible refine ordOK_of ?_; kernel_rfl) | (with_reducible refine chk_of ?_; kernel_rfl) | (intros; omega) | (intro q1 q2; rw [q1, q2]; rfl) | (intro q1; rw [q1]; rfl) | (intro q; simp only [Bool.and_eq_true, decide_eq_true_eq, beq_iff_eq] at q; omega) | (intros; simp_all; done) | (intros; simp [List.range, List.range.loop]; done) | (intros; simp_all [List.range, List.range.loop]; done))) | refine And.intro (fun hg => ?_) (fun hg => ?_) | (with_reducible refine chk_of ?_; kernel_rfl) | fail)
end Go.Proofs.Ytgiempmfpmlgnaa

