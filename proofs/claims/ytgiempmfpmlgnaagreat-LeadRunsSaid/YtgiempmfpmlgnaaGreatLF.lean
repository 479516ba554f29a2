/- The leader: what the statements call. -/
import Derived.Test.YtgiempmfpmlgnaaGreatLE
import Derived.Test.YtgiempmfpmlgnaaGreatAA
namespace Go.Proofs.YtgiempmfpmlgnaaGreat
open Go.Pk
set_option maxRecDepth 100000
set_option linter.unusedSimpArgs false
set_option linter.unusedVariables false
def prom2 : Prom := ⟨0, 2, ⟨0, 0⟩, 0, []⟩
theorem prom2_ok : prom2.ok := by refine ⟨?_, ?_, ?_, ?_, ?_, ?_, ?_⟩ <;> simp [prom2, i64]
theorem heard0 : HeardOK [] := ⟨Nat.zero_le _, fun q h => by simp at h, List.Pairwise.nil⟩
def Lw1 : LeadS := ⟨1, 1, 4, [], [], 0, ⟨0, 0⟩, 0⟩
def Lw2 : LeadS := ⟨1, 2, 4, [prom2], [], 3, ⟨0, 0⟩, 0⟩
def Lw3 : LeadS := ⟨1, 2, 4, [prom2], [⟨3, 4, ⟨false, 4, ⟨0, 0⟩, 7, []⟩⟩], 4, ⟨4, 3⟩, 7⟩
theorem w1 : beginP (newL 1) 4 = (Lw1, 0) := by rfl
theorem w2 : hearP Lw1 prom2 = (Lw2, true, 0) := by kernel_rfl
theorem w3 : addP Lw2 2 7 [] = (Lw3, 3, 0) := by kernel_rfl
set_option maxHeartbeats 2000000 in
theorem awake_ok : CallOK Tryz.prog 4 [] (fun r o => r = [rb true] ∧ o = []) := by
  refine callOK_of TOKTy mixed (T := Ty) (n := 60) Tryz.func4 (c := Tryz.f4.body.getD .skip) rfl Tryz.results4 Tryz.ntmps4 Tryz.call4 ?_
  simp only [Tryz.f4, Option.getD]
  have h1 := begin_ok (newL 1) 4
  have h2 := hear_ok Lw1 prom2 prom2_ok heard0 (fun _ => rfl) (by decide)
  have h3 := add_ok Lw2 2 7 [] (by decide) (by decide) (by decide) (fun r h => by simp at h)
  have h4 := slots_ok Lw3 2 (by decide) (fun v hv => by
    simp [Lw3] at hv
    subst hv
    exact ⟨by decide, by decide, by decide⟩)
  rw [w1] at h1
  rw [w2] at h2
  rw [w3] at h3
  repeat' (first | (with_reducible first | refine SeqQ_normal _ _ ?_ | refine CondR_tt ?_ | refine CondR_ff ?_) | rw [awp_seq] | simp only [pkS, TyB, pkY, Int.reduceEq, bne_self_eq_false, Int.reduceBEq, Int.reduceBNe, implies_true, forall_const, Nat.reduceSub, Nat.reduceEqDiff, Nat.reduceAdd, Nat.reduceMul, Nat.reduceLeDiff, Nat.reduceLT, Nat.reduceBEq, reduceCtorEq] | refine CallP_of (new_ok 1 (by decide)) ?_ | (refine CallP_of (CallP.le (new_ok 1 (by decide)) ?_) ?_; focus (simp [argsLe, aLe, csLe, cLe] <;> fail)) | refine CallRG_no ?_ | refine CondR_of (fun hb => ?_) (fun hb => ?_) | (refine And.intro ?_ ?_; focus ((try with_reducible refine GIm_of ?_); first | (with_reducible rfl) | ((with_reducible first | refine rng_of ?_ | refine ordOK_of ?_ | refine chk_of ?_); kernel_rfl) | (intros; omega) | (intro q p; rw [q, p]; rfl) | (intro q; rw [q]; rfl) | (intro q; simp only [Bool.and_eq_true, decide_eq_true_eq, beq_iff_eq] at q; omega) | (intros; simp_all; done) | (intros; simp [List.range, List.range.loop]; done) | (intros; simp_all [List.range, List.range.loop]; done))) | refine And.intro (fun hg => ?_) (fun hg => ?_) | (with_reducible refine chk_of ?_; kernel_rfl) | fail)
  refine CallMJ_of (mv := ?mv1) (lent := ?le1) (x := ?x1) (ass := ?ass1) ?ha1 (h1) ?hr1 rfl ?hs1 ?hb1 ?hc1
  case ha1 => (try simp only [pkS, TyB, pkY, Int.reduceEq, bne_self_eq_false, Int.reduceBEq, Int.reduceBNe, implies_true, forall_const, Nat.reduceSub, Nat.reduceEqDiff, Nat.reduceAdd, Nat.reduceMul, Nat.reduceLeDiff, Nat.reduceLT, Nat.reduceBEq, reduceCtorEq]); exact rfl
  case hr1 => simp [rosA, roA]
  case hs1 => simp [argsLe, aLe, csLe, cLe]
  case hb1 => (try simp only [pkS, TyB, scM, implies_true, forall_const, Nat.reduceSub, Nat.reduceEqDiff, Nat.reduceAdd, Nat.reduceMul, Nat.reduceLeDiff, Nat.reduceLT, Nat.reduceBEq, reduceCtorEq]); repeat' (first | rfl | trivial | omega | with_reducible refine And.intro ?_ ?_)
  show aops _ _ _ _ _ _ _ _
  repeat' (first | (with_reducible first | refine SeqQ_normal _ _ ?_ | refine CondR_tt ?_ | refine CondR_ff ?_) | rw [awp_seq] | simp only [pkS, TyB, pkY, Int.reduceEq, bne_self_eq_false, Int.reduceBEq, Int.reduceBNe, implies_true, forall_const, Nat.reduceSub, Nat.reduceEqDiff, Nat.reduceAdd, Nat.reduceMul, Nat.reduceLeDiff, Nat.reduceLT, Nat.reduceBEq, reduceCtorEq] | refine CallRG_no ?_ | refine CondR_of (fun hb => ?_) (fun hb => ?_) | (refine And.intro ?_ ?_; focus ((try with_reducible refine GIm_of ?_); first | (with_reducible rfl) | ((with_reducible first | refine rng_of ?_ | refine ordOK_of ?_ | refine chk_of ?_); kernel_rfl) | (intros; omega) | (intro q p; rw [q, p]; rfl) | (intro q; rw [q]; rfl) | (intro q; simp only [Bool.and_eq_true, decide_eq_true_eq, beq_iff_eq] at q; omega) | (intros; simp_all; done) | (intros; simp [List.range, List.range.loop]; done) | (intros; simp_all [List.range, List.range.loop]; done))) | refine And.intro (fun hg => ?_) (fun hg => ?_) | (with_reducible refine chk_of ?_; kernel_rfl) | fail)
  refine CallMJ_of (mv := ?mv2) (lent := ?le2) (x := ?x2) (ass := ?ass2) ?ha2 (h2) ?hr2 rfl ?hs2 ?hb2 ?hc2
  case ha2 => (try simp only [pkS, TyB, pkY, Int.reduceEq, bne_self_eq_false, Int.reduceBEq, Int.reduceBNe, prom2, implies_true, forall_const, Nat.reduceSub, Nat.reduceEqDiff, Nat.reduceAdd, Nat.reduceMul, Nat.reduceLeDiff, Nat.reduceLT, Nat.reduceBEq, reduceCtorEq]); exact rfl
  case hr2 => simp [rosA, roA, prom2]
  case hs2 => simp [argsLe, aLe, csLe, cLe, prom2]
  case hb2 => (try simp only [pkS, TyB, scM, prom2, implies_true, forall_const, Nat.reduceSub, Nat.reduceEqDiff, Nat.reduceAdd, Nat.reduceMul, Nat.reduceLeDiff, Nat.reduceLT, Nat.reduceBEq, reduceCtorEq]); repeat' (first | rfl | trivial | omega | with_reducible refine And.intro ?_ ?_)
  show aops _ _ _ _ _ _ _ _
  repeat' (first | (with_reducible first | refine SeqQ_normal _ _ ?_ | refine CondR_tt ?_ | refine CondR_ff ?_) | rw [awp_seq] | simp only [pkS, TyB, pkY, Int.reduceEq, bne_self_eq_false, Int.reduceBEq, Int.reduceBNe, implies_true, forall_const, Nat.reduceSub, Nat.reduceEqDiff, Nat.reduceAdd, Nat.reduceMul, Nat.reduceLeDiff, Nat.reduceLT, Nat.reduceBEq, reduceCtorEq] | refine CallRG_no ?_ | refine CondR_of (fun hb => ?_) (fun hb => ?_) | (refine And.intro ?_ ?_; focus ((try with_reducible refine GIm_of ?_); first | (with_reducible rfl) | ((with_reducible first | refine rng_of ?_ | refine ordOK_of ?_ | refine chk_of ?_); kernel_rfl) | (intros; omega) | (intro q p; rw [q, p]; rfl) | (intro q; rw [q]; rfl) | (intro q; simp only [Bool.and_eq_true, decide_eq_true_eq, beq_iff_eq] at q; omega) | (intros; simp_all; done) | (intros; simp [List.range, List.range.loop]; done) | (intros; simp_all [List.range, List.range.loop]; done))) | refine And.intro (fun hg => ?_) (fun hg => ?_) | (with_reducible refine chk_of ?_; kernel_rfl) | fail)
  refine CallMJ_of (mv := ?mv3) (lent := ?le3) (x := ?x3) (ass := ?ass3) ?ha3 (h3) ?hr3 rfl ?hs3 ?hb3 ?hc3
  case ha3 => (try simp only [pkS, TyB, pkY, Int.reduceEq, bne_self_eq_false, Int.reduceBEq, Int.reduceBNe, implies_true, forall_const, Nat.reduceSub, Nat.reduceEqDiff, Nat.reduceAdd, Nat.reduceMul, Nat.reduceLeDiff, Nat.reduceLT, Nat.reduceBEq, reduceCtorEq]); exact rfl
  case hr3 => simp [rosA, roA]
  case hs3 => simp [argsLe, aLe, csLe, cLe]
  case hb3 => (try simp only [pkS, TyB, scM, implies_true, forall_const, Nat.reduceSub, Nat.reduceEqDiff, Nat.reduceAdd, Nat.reduceMul, Nat.reduceLeDiff, Nat.reduceLT, Nat.reduceBEq, reduceCtorEq]); repeat' (first | rfl | trivial | omega | with_reducible refine And.intro ?_ ?_)
  show aops _ _ _ _ _ _ _ _
  repeat' (first | (with_reducible first | refine SeqQ_normal _ _ ?_ | refine CondR_tt ?_ | refine CondR_ff ?_) | rw [awp_seq] | simp only [pkS, TyB, pkY, Int.reduceEq, bne_self_eq_false, Int.reduceBEq, Int.reduceBNe, implies_true, forall_const, Nat.reduceSub, Nat.reduceEqDiff, Nat.reduceAdd, Nat.reduceMul, Nat.reduceLeDiff, Nat.reduceLT, Nat.reduceBEq, reduceCtorEq] | ((try refine CallRG_tt ?_); apply CallR_of; (solve | exact (phase_ok Lw3) | exact (next_ok Lw3) | exact (h4) | exact (new_nil 0 rfl) | (refine CallOK.le (phase_ok Lw3) ?_; simp [argsLe, aLe, csLe, cLe]) | (refine CallOK.le (next_ok Lw3) ?_; simp [argsLe, aLe, csLe, cLe]) | (refine CallOK.le (h4) ?_; simp [argsLe, aLe, csLe, cLe]) | (refine CallOK.le (new_nil 0 rfl) ?_; simp [argsLe, aLe, csLe, cLe]))) | (apply CallRG_of; (focus (intro _; (solve | exact (phase_ok Lw3) | exact (next_ok Lw3) | exact (h4) | exact (new_nil 0 rfl) | (refine CallOK.le (phase_ok Lw3) ?_; simp [argsLe, aLe, csLe, cLe]) | (refine CallOK.le (next_ok Lw3) ?_; simp [argsLe, aLe, csLe, cLe]) | (refine CallOK.le (h4) ?_; simp [argsLe, aLe, csLe, cLe]) | (refine CallOK.le (new_nil 0 rfl) ?_; simp [argsLe, aLe, csLe, cLe])))); (focus rfl)) | refine CallRG_no ?_ | refine CondR_of (fun hb => ?_) (fun hb => ?_) | (refine And.intro ?_ ?_; focus ((try with_reducible refine GIm_of ?_); first | (with_reducible rfl) | ((with_reducible first | refine rng_of ?_ | refine ordOK_of ?_ | refine chk_of ?_); kernel_rfl) | (intros; omega) | (intro q p; rw [q, p]; rfl) | (intro q; rw [q]; rfl) | (intro q; simp only [Bool.and_eq_true, decide_eq_true_eq, beq_iff_eq] at q; omega) | (intros; simp_all; done) | (intros; simp [List.range, List.range.loop]; done) | (intros; simp_all [List.range, List.range.loop]; done))) | refine And.intro (fun hg => ?_) (fun hg => ?_) | (with_reducible refine chk_of ?_; kernel_rfl) | fail)
  rfl
/-- The requests that bytes make, of the clients 0, 1, 2. -/
def lreqs (ns : List Int) : Nat → List Req
  | 0 => []
  | k + 1 => lreqs ns k ++ [reqP k (ns.getD k 0) (ns.getD k 0) ((ns.getD k 0) / 4) ((ns.getD k 0) / 16)]
def lreqsP (ns : List Int) : List Req := lreqs ns (min ns.length 3)
theorem lreqs_len {ns : List Int} : ∀ {k : Nat}, (lreqs ns k).length = k
  | 0 => rfl
  | k + 1 => by simp [lreqs, lreqs_len (k := k)]
abbrev rowR (l : List Req) : RF := .one (.own 5 l.length (reqsE l) false)
set_option maxHeartbeats 1000000 in
theorem lreqs_ok (ns : List Int) (hl : ns.length < 2 ^ 60) (hu : ∀ x ∈ ns, u8 x) : CallOK Tryz.prog 12 [.f (al ns.length (bytesE ns))] (fun r o => r = [rowR (lreqsP ns)] ∧ o = []) := by
  refine CallOK.nil ?_
  refine callOK_of TOKTy mixed (T := Ty) (n := 40) Tryz.func12 (c := Tryz.f12.body.getD .skip) rfl Tryz.results12 Tryz.ntmps12 Tryz.call12 ?_
  simp only [Tryz.f12, Option.getD]
  repeat (first | with_reducible refine SeqQ_normal _ _ ?_ | with_reducible refine And.imp_right (SeqQ_normal _ _) ?_ | with_reducible refine And.imp_right (And.imp_right (SeqQ_normal _ _)) ?_ | with_reducible refine And.imp_right (And.imp_right (And.imp_right (SeqQ_normal _ _))) ?_ | rw [awp_seq] | simp only [pkS, TyB,  implies_true, forall_const, Nat.reduceSub, Nat.reduceEqDiff, Nat.reduceAdd, Nat.reduceMul, Nat.reduceLeDiff, Nat.reduceLT, Nat.reduceBEq, reduceCtorEq])
  refine LoopR_ix Ty Tryz.prog (τ := Nat) (fun i => ⟨[al ns.length (bytesE ns), dd, dd, .one (.own ⟨3, 1, 1⟩ 0 (lreqs ns i).length), ai i, dd, dd, dd, dd, dd, dd, dd, dd, dd, dd, dd, dd, dd, dd, dd, dd, dd, dd, dd, dd, dd, dd, dd, dd, dd, dd, dd, dd, dd, dd, dd, dd, dd, dd, dd], [(3, { next := 2, l := [none, some { e := 1, var := false, fz := false, sz := 5, cells := (reqsE (lreqs ns i)).map C.d }] }), (36, ⟨2, []⟩), (37, ⟨2, []⟩), (38, ⟨2, []⟩)]⟩)
    (fun i => i ≤ ns.length ∧ i ≤ 3) (fun i => ns.length - i) 0 ((Gh.nil (i := 3) (s := 3) (sz := 5) rfl).trans (Gh.canon [3] [36, 37, 38] [] (by simp only [fgc_dead, fgc_dv, fgc_lent, fgc_nil, fgc_ptr, fgc_own, List.set_cons_zero, List.set_cons_succ, and_true, true_and, Int.natCast_zero, Int.cast_ofNat_Int, D.v.injEq, Value.int.injEq]; try (repeat' (first | rfl | omega | with_reducible apply And.intro))) rfl rfl)) ⟨Nat.zero_le _, Nat.zero_le _⟩ ?_
  intro i ⟨hi0, hi3⟩ K hK
  repeat' (first | (with_reducible first | refine SeqQ_normal _ _ ?_ | refine CondR_tt ?_ | refine CondR_ff ?_) | rw [awp_seq] | simp only [pkS, TyB, pkY, Int.reduceEq, bne_self_eq_false, Int.reduceBEq, Int.reduceBNe, implies_true, forall_const, Nat.reduceSub, Nat.reduceEqDiff, Nat.reduceAdd, Nat.reduceMul, Nat.reduceLeDiff, Nat.reduceLT, Nat.reduceBEq, reduceCtorEq] | refine CallRG_no ?_ | refine CondR_of (fun hb => ?_) (fun hb => ?_) | (refine And.intro ?_ ?_; focus ((try with_reducible refine GIm_of ?_); first | (with_reducible rfl) | ((with_reducible first | refine rng_of ?_ | refine ordOK_of ?_ | refine chk_of ?_); kernel_rfl) | (intros; omega) | (intro q p; rw [q, p]; rfl) | (intro q; rw [q]; rfl) | (intro q; simp only [Bool.and_eq_true, decide_eq_true_eq, beq_iff_eq] at q; omega) | (intros; simp_all; done) | (intros; simp [List.range, List.range.loop]; done) | (intros; simp_all [List.range, List.range.loop]; done))) | refine And.intro (fun hg => ?_) (fun hg => ?_) | (with_reducible refine chk_of ?_; kernel_rfl) | fail)
  · simp only [Bool.and_eq_true, decide_eq_true_eq] at hb
    have hi : i < ns.length := by omega
    have hat := bytes_at hi
    have hx := hu _ (List.getElem_mem hi)
    have hgd : ns.getD i 0 = ns[i] := by simp [List.getD_eq_getElem?_getD, hi]
    have hw8 : IntKind.u8.wrap (i : Int) = i := by unfold IntKind.wrap; simp [IntKind.signed, IntKind.bits]; omega
    have hs2 : (ns[i].fdiv (2 ^ (min (Int.toNat 2) IntKind.u8.bits))) = ns[i] / 4 := by
      rw [show (2 : Int) ^ (min (Int.toNat 2) IntKind.u8.bits) = 4 by decide]; exact Int.fdiv_eq_ediv_of_nonneg _ (by decide)
    have hs4 : (ns[i].fdiv (2 ^ (min (Int.toNat 4) IntKind.u8.bits))) = ns[i] / 16 := by
      rw [show (2 : Int) ^ (min (Int.toNat 4) IntKind.u8.bits) = 16 by decide]; exact Int.fdiv_eq_ediv_of_nonneg _ (by decide)
    have hrq := req_ok4 i ns[i] ns[i] (ns[i] / 4) (ns[i] / 16) ⟨by omega, by omega⟩ hx hx ⟨by have := hx.1; omega, by have := hx.2; omega⟩ ⟨by have := hx.1; omega, by have := hx.2; omega⟩
    have hn : ∀ (a b : Option Value), (if (2 : Int) < 0 then a else b) = b := fun a b => if_neg (by decide)
    have hn4 : ∀ (a b : Option Value), (if (4 : Int) < 0 then a else b) = b := fun a b => if_neg (by decide)
    have hln : (lreqs ns i).length = i := lreqs_len
    have hw := i64_succ hi (by omega)
    repeat' (first | (with_reducible first | refine SeqQ_normal _ _ ?_ | refine CondR_tt ?_ | refine CondR_ff ?_) | rw [awp_seq] | simp only [pkS, TyB, hat, hw8, hs2, hs4, hn, hn4, pkY, Int.reduceEq, bne_self_eq_false, Int.reduceBEq, Int.reduceBNe, implies_true, forall_const, Nat.reduceSub, Nat.reduceEqDiff, Nat.reduceAdd, Nat.reduceMul, Nat.reduceLeDiff, Nat.reduceLT, Nat.reduceBEq, reduceCtorEq] | ((try refine CallRG_tt ?_); apply CallR_of; (solve | exact (hrq) | (refine CallOK.le (hrq) ?_; simp [argsLe, aLe, csLe, cLe]))) | (apply CallRG_of; (focus (intro _; (solve | exact (hrq) | (refine CallOK.le (hrq) ?_; simp [argsLe, aLe, csLe, cLe])))); (focus rfl)) | refine CallRG_no ?_ | refine CondR_of (fun hb => ?_) (fun hb => ?_) | (refine And.intro ?_ ?_; focus ((try with_reducible refine GIm_of ?_); first | (with_reducible rfl) | ((with_reducible first | refine rng_of ?_ | refine ordOK_of ?_ | refine chk_of ?_); kernel_rfl) | (intros; omega) | (intro q p; rw [q, p]; rfl) | (intro q; rw [q]; rfl) | (intro q; simp only [Bool.and_eq_true, decide_eq_true_eq, beq_iff_eq] at q; omega) | (intros; simp_all; done) | (intros; simp [List.range, List.range.loop]; done) | (intros; simp_all [List.range, List.range.loop]; done))) | refine And.intro (fun hg => ?_) (fun hg => ?_) | (with_reducible refine chk_of ?_; kernel_rfl) | fail)
    refine hK _ (i + 1) (Gh.canon [3] [] [] (by simp only [hw, lreqs_len, fgc_dead, fgc_dv, fgc_lent, fgc_nil, fgc_ptr, fgc_own, List.set_cons_zero, List.set_cons_succ, and_true, true_and, Int.natCast_zero, Int.cast_ofNat_Int, D.v.injEq, Value.int.injEq]; try (repeat' (first | rfl | omega | with_reducible apply And.intro))) rfl (by simp only [lreqs, lreqs_len, hgd, reqsE_snoc]; rfl)) ⟨hi, by omega⟩ (by omega)
  · simp only [Bool.and_eq_false_iff, decide_eq_false_iff_not] at hb
    have hi : i = min ns.length 3 := by omega
    subst hi
    rw [lreqsP]
    repeat' (first | (with_reducible first | refine SeqQ_normal _ _ ?_ | refine CondR_tt ?_ | refine CondR_ff ?_) | rw [awp_seq] | simp only [pkS, TyB, pkY, Int.reduceEq, bne_self_eq_false, Int.reduceBEq, Int.reduceBNe, implies_true, forall_const, Nat.reduceSub, Nat.reduceEqDiff, Nat.reduceAdd, Nat.reduceMul, Nat.reduceLeDiff, Nat.reduceLT, Nat.reduceBEq, reduceCtorEq] | refine CallRG_no ?_ | refine CondR_of (fun hb => ?_) (fun hb => ?_) | (refine And.intro ?_ ?_; focus ((try with_reducible refine GIm_of ?_); first | (with_reducible rfl) | ((with_reducible first | refine rng_of ?_ | refine ordOK_of ?_ | refine chk_of ?_); kernel_rfl) | (intros; omega) | (intro q p; rw [q, p]; rfl) | (intro q; rw [q]; rfl) | (intro q; simp only [Bool.and_eq_true, decide_eq_true_eq, beq_iff_eq] at q; omega) | (intros; simp_all; done) | (intros; simp [List.range, List.range.loop]; done) | (intros; simp_all [List.range, List.range.loop]; done))) | refine And.intro (fun hg => ?_) (fun hg => ?_) | (with_reducible refine chk_of ?_; kernel_rfl) | fail)
    simp [rfs1, roLe]
theorem sameVotes_ok (l : List Vote) (hl : l.length < 2 ^ 42) (hr : ∀ v ∈ l, v.batch.reqs.length < 2 ^ 42) : CallOK Tryz.prog 28 [.f (al l.length (votesE l)), .f (al l.length (votesE l))] (fun r o => r = [rb true] ∧ o = []) := by
  refine callOK_of TOKTy mixed (T := Ty) (n := 55) Tryz.func28 (c := Tryz.f28.body.getD .skip) rfl Tryz.results28 Tryz.ntmps28 Tryz.call28 ?_
  simp only [Tryz.f28, Option.getD]
  repeat' (first | (with_reducible first | refine SeqQ_normal _ _ ?_ | refine CondR_tt ?_ | refine CondR_ff ?_) | rw [awp_seq] | simp only [pkS, TyB, bne_self_eq_false, pkY, Int.reduceEq, bne_self_eq_false, Int.reduceBEq, Int.reduceBNe, implies_true, forall_const, Nat.reduceSub, Nat.reduceEqDiff, Nat.reduceAdd, Nat.reduceMul, Nat.reduceLeDiff, Nat.reduceLT, Nat.reduceBEq, reduceCtorEq] | refine CallRG_no ?_ | refine CondR_of (fun hb => ?_) (fun hb => ?_) | (refine And.intro ?_ ?_; focus ((try with_reducible refine GIm_of ?_); first | (with_reducible rfl) | ((with_reducible first | refine rng_of ?_ | refine ordOK_of ?_ | refine chk_of ?_); kernel_rfl) | (intros; omega) | (intro q p; rw [q, p]; rfl) | (intro q; rw [q]; rfl) | (intro q; simp only [Bool.and_eq_true, decide_eq_true_eq, beq_iff_eq] at q; omega) | (intros; simp_all; done) | (intros; simp [List.range, List.range.loop]; done) | (intros; simp_all [List.range, List.range.loop]; done))) | refine And.intro (fun hg => ?_) (fun hg => ?_) | (with_reducible refine chk_of ?_; kernel_rfl) | fail)
  refine LoopR_fn (τ := Nat) (fun t => ⟨[al l.length (votesE l), al l.length (votesE l), dd, dd, ab false, ai t, dd, dd, dd, dd, dd, dd, dd, dd, dd, dd, dd, dd, dd, dd, dd, dd, dd, dd, dd, dd, dd, dd, dd, dd, dd, dd, dd, dd, dd, dd, dd, dd, dd, dd, dd, dd, dd, dd, dd, dd, dd, dd, dd, dd, dd, dd, dd, dd, dd], []⟩)
    (fun t => t ≤ l.length) (fun t => ()) (fun t => l.length - t) 0 (Gh.fgt ?_) (Nat.zero_le _) ?_
  · simp only [fgt_dead, fgt_same, fgt_nil, Int.natCast_zero]
  intro i hi0 hF K hK
  repeat (first | with_reducible refine SeqQ_normal _ _ ?_ | with_reducible refine And.imp_right (SeqQ_normal _ _) ?_ | with_reducible refine And.imp_right (And.imp_right (SeqQ_normal _ _)) ?_ | with_reducible refine And.imp_right (And.imp_right (And.imp_right (SeqQ_normal _ _))) ?_ | rw [awp_seq] | simp only [pkS, TyB,  implies_true, forall_const, Nat.reduceSub, Nat.reduceEqDiff, Nat.reduceAdd, Nat.reduceMul, Nat.reduceLeDiff, Nat.reduceLT, Nat.reduceBEq, reduceCtorEq])
  refine CondR_of (fun hlt => ?_) (fun hge => ?_)
  · have hi : i < l.length := by simpa using hlt
    have hat := votes_at hi
    simp only [List.cons_append, List.nil_append] at hat
    have hsm := same12_ok l[i].batch (hr _ (List.getElem_mem hi))
    repeat' (first | (with_reducible first | refine SeqQ_normal _ _ ?_ | refine CondR_tt ?_ | refine CondR_ff ?_) | rw [awp_seq] | simp only [pkS, TyB, votes_len, hat, bne_self_eq_false, pkY, Int.reduceEq, bne_self_eq_false, Int.reduceBEq, Int.reduceBNe, implies_true, forall_const, Nat.reduceSub, Nat.reduceEqDiff, Nat.reduceAdd, Nat.reduceMul, Nat.reduceLeDiff, Nat.reduceLT, Nat.reduceBEq, reduceCtorEq] | ((try refine CallRG_tt ?_); apply CallR_of; (solve | exact (hsm) | (refine CallOK.le (hsm) ?_; simp [argsLe, aLe, csLe, cLe]))) | (apply CallRG_of; (focus (intro _; (solve | exact (hsm) | (refine CallOK.le (hsm) ?_; simp [argsLe, aLe, csLe, cLe])))); (focus rfl)) | refine CallRG_no ?_ | refine CondR_of (fun hb => ?_) (fun hb => ?_) | (refine And.intro ?_ ?_; focus ((try with_reducible refine GIm_of ?_); first | (with_reducible rfl) | ((with_reducible first | refine rng_of ?_ | refine ordOK_of ?_ | refine chk_of ?_); kernel_rfl) | (intros; omega) | (intro q p; rw [q, p]; rfl) | (intro q; rw [q]; rfl) | (intro q; simp only [Bool.and_eq_true, decide_eq_true_eq, beq_iff_eq] at q; omega) | (intros; simp_all; done) | (intros; simp [List.range, List.range.loop]; done) | (intros; simp_all [List.range, List.range.loop]; done))) | refine And.intro (fun hg => ?_) (fun hg => ?_) | (with_reducible refine chk_of ?_; kernel_rfl) | fail)
    refine hK _ (i + 1) (Gh.fgt ?_) hi rfl (by omega)
    simp only [i64_succ hi (by omega), fgt_dead, fgt_same, fgt_nil]
  · repeat' (first | (with_reducible first | refine SeqQ_normal _ _ ?_ | refine CondR_tt ?_ | refine CondR_ff ?_) | rw [awp_seq] | simp only [pkS, TyB, pkY, Int.reduceEq, bne_self_eq_false, Int.reduceBEq, Int.reduceBNe, implies_true, forall_const, Nat.reduceSub, Nat.reduceEqDiff, Nat.reduceAdd, Nat.reduceMul, Nat.reduceLeDiff, Nat.reduceLT, Nat.reduceBEq, reduceCtorEq] | refine CallRG_no ?_ | refine CondR_of (fun hb => ?_) (fun hb => ?_) | (refine And.intro ?_ ?_; focus ((try with_reducible refine GIm_of ?_); first | (with_reducible rfl) | ((with_reducible first | refine rng_of ?_ | refine ordOK_of ?_ | refine chk_of ?_); kernel_rfl) | (intros; omega) | (intro q p; rw [q, p]; rfl) | (intro q; rw [q]; rfl) | (intro q; simp only [Bool.and_eq_true, decide_eq_true_eq, beq_iff_eq] at q; omega) | (intros; simp_all; done) | (intros; simp [List.range, List.range.loop]; done) | (intros; simp_all [List.range, List.range.loop]; done))) | refine And.intro (fun hg => ?_) (fun hg => ?_) | (with_reducible refine chk_of ?_; kernel_rfl) | fail)
abbrev LeadS.roF (L : LeadS) : List RO := [.d (iD L.n), .d (iD L.phase), .d (iD L.view), .own 6 L.heard.length (promisesE L.heard) false, .own 8 L.slots.length (votesE L.slots) false, .d (iD L.next), .d (iD L.tip.view), .d (iD L.tip.slot), .d (iD L.time)]
/-- The leader of three that heard two promises. -/
def ledP (v : Int) (p q : Prom) : LeadS := ⟨3, 2, v, [p, q], voteOf v ((makeP [p, q]).1.done + 1) 0 (makeP [p, q]).1.batches, (makeP [p, q]).1.done + 1 + (makeP [p, q]).1.batches.length, (makeP [p, q]).1.after, (makeP [p, q]).1.later⟩
def led0 (v : Int) : LeadS := ⟨3, 1, v, [], [], 0, ⟨0, 0⟩, 0⟩
def led1 (v : Int) (p : Prom) : LeadS := ⟨3, 1, v, [p], [], 0, ⟨0, 0⟩, 0⟩
end Go.Proofs.YtgiempmfpmlgnaaGreat

