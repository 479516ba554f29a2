/- PlanMade: the batches that bytes make. -/
import Derived.Test.YtgiempmfpmlgnaaGreatT
import Derived.Test.YtgiempmfpmlgnaaGreatK7
namespace Go.Proofs.YtgiempmfpmlgnaaGreat
open Go.Pk
set_option maxRecDepth 100000
set_option linter.unusedSimpArgs false
set_option linter.unusedVariables false
theorem bytes_at {l : List Int} {i : Nat} (hi : i < l.length) : (bytesE l).drop i = uD l[i] :: bytesE (l.drop (i + 1)) := by
  rw [← List.map_drop, List.drop_eq_getElem_cons hi, List.map_cons]
/-- Requests out of bytes, five at a time, of unlike clients, three at most. -/
def reqsB (l : List Int) (acc : List Req) : Nat → Nat → List Req
  | 0, _ => acc
  | n + 1, i => if i + 4 < l.length ∧ acc.length < 3 then
      let r := reqP (l.getD i 0) (l.getD (i + 1) 0) (l.getD (i + 2) 0) (l.getD (i + 3) 0) (l.getD (i + 4) 0)
      reqsB l (if acc.any (fun o => o.client == r.client) = true then acc else acc ++ [r]) n (i + 5) else acc

abbrev batchRf (b : Batch) : RF := .agg [.d (bD b.fill), .d (iD b.view), .d (iD b.tip.view), .d (iD b.tip.slot), .d (iD b.time), .own 5 b.reqs.length (reqsE b.reqs) false]
def batchB (l : List Int) : Batch :=
  if l.length < 4 ∨ l.getD 0 0 = 255 then fillB
  else ⟨false, (((l.getD 2 0).toNat % 8 : Nat) : Int), ⟨(((l.getD 0 0).toNat % 4 : Nat) : Int), (((l.getD 1 0).toNat % 6 : Nat) : Int)⟩, l.getD 3 0, reqsB l [] l.length 4⟩
set_option maxHeartbeats 1000000 in
theorem batch_ok4 (l : List Int) (hl : l.length < 2 ^ 60) (hu : ∀ x ∈ l, u8 x) : CallOK Tryz.prog 34 [.f (al l.length (bytesE l))] (fun r o => r = [batchRf (batchB l)] ∧ o = []) := by
  refine CallOK.nil ?_
  refine callOK_of TOKTy mixed (T := Ty) (n := 105) Tryz.func34 (c := Tryz.f34.body.getD .skip) rfl Tryz.results34 Tryz.ntmps34 Tryz.call34 ?_
  simp only [Tryz.f34, Option.getD]
  by_cases h4 : l.length < 4
  · have hbad : Pk.bad = (⟨False, .one .dead, []⟩ : Out) := rfl
    cases l with
    | nil =>
      have hd : decide (((0 : Nat) : Int) < 4) = true := rfl
      repeat' (first | (with_reducible first | refine SeqQ_normal _ _ ?_ | refine CondR_tt ?_ | refine CondR_ff ?_) | rw [awp_seq] | simp only [pkS, TyB, hd, List.map_nil, hbad, pkX, Int.reduceEq, implies_true, forall_const, Nat.reduceSub, Nat.reduceEqDiff, Nat.reduceAdd, Nat.reduceMul, Nat.reduceLeDiff, Nat.reduceLT, Nat.reduceBEq, reduceCtorEq] | refine CallRG_no ?_ | refine CondR_of (fun hb => ?_) (fun hb => ?_) | (refine And.intro ?_ ?_; focus ((try with_reducible refine GIm_of ?_); first | (with_reducible rfl) | ((with_reducible first | refine rng_of ?_ | refine ordOK_of ?_ | refine chk_of ?_); kernel_rfl) | (intros; omega) | (intro q p; rw [q, p]; rfl) | (intro q; rw [q]; rfl) | (intro q; simp only [Bool.and_eq_true, decide_eq_true_eq, beq_iff_eq] at q; omega) | (intros; simp_all; done) | (intros; simp [List.range, List.range.loop]; done) | (intros; simp_all [List.range, List.range.loop]; done))) | refine And.intro (fun hg => ?_) (fun hg => ?_) | (with_reducible refine chk_of ?_; kernel_rfl) | fail)
      simp [rfsLe, rfLe, rosLe_cons, rosLe_nil, roLe, fillB, batchB]
    | cons x l =>
    have hd : decide (((l.length + 1 : Nat) : Int) < 4) = true := decide_eq_true (by simp only [List.length_cons] at h4; omega)
    repeat' (first | (with_reducible first | refine SeqQ_normal _ _ ?_ | refine CondR_tt ?_ | refine CondR_ff ?_) | rw [awp_seq] | simp only [pkS, TyB, hd, List.map_cons, pkX, Int.reduceEq, implies_true, forall_const, Nat.reduceSub, Nat.reduceEqDiff, Nat.reduceAdd, Nat.reduceMul, Nat.reduceLeDiff, Nat.reduceLT, Nat.reduceBEq, reduceCtorEq] | refine CallRG_no ?_ | refine CondR_of (fun hb => ?_) (fun hb => ?_) | (refine And.intro ?_ ?_; focus ((try with_reducible refine GIm_of ?_); first | (with_reducible rfl) | ((with_reducible first | refine rng_of ?_ | refine ordOK_of ?_ | refine chk_of ?_); kernel_rfl) | (intros; omega) | (intro q p; rw [q, p]; rfl) | (intro q; rw [q]; rfl) | (intro q; simp only [Bool.and_eq_true, decide_eq_true_eq, beq_iff_eq] at q; omega) | (intros; simp_all; done) | (intros; simp [List.range, List.range.loop]; done) | (intros; simp_all [List.range, List.range.loop]; done))) | refine And.intro (fun hg => ?_) (fun hg => ?_) | (with_reducible refine chk_of ?_; kernel_rfl) | fail)
    rw [show batchB (x :: l) = fillB from if_pos (Or.inl h4)]
    simp [rfsLe, rfLe, rosLe_cons, rosLe_nil, roLe, fillB]
  obtain ⟨x0, x1, x2, x3, l', rfl⟩ : ∃ x0 x1 x2 x3 l', l = x0 :: x1 :: x2 :: x3 :: l' := by
    match l, h4 with
    | x0 :: x1 :: x2 :: x3 :: l', _ => exact ⟨x0, x1, x2, x3, l', rfl⟩
    | [], h => simp at h
    | [_], h => simp at h
    | [_, _], h => simp at h
    | [_, _, _], h => simp at h
  have u0 := hu x0 (by simp)
  have u1 := hu x1 (by simp)
  have u2 := hu x2 (by simp)
  have u3 := hu x3 (by simp)
  have w0 := u8w u0
  have w1 := u8w u1
  have w2 := u8w u2
  have w3 := u8w u3
  have e4 : x0.tmod 4 = ((x0.toNat % 4 : Nat) : Int) := tmod_nat u0 (m := 4) (by decide)
  have e6 : x1.tmod 6 = ((x1.toNat % 6 : Nat) : Int) := tmod_nat u1 (m := 6) (by decide)
  have e8 : x2.tmod 8 = ((x2.toNat % 8 : Nat) : Int) := tmod_nat u2 (m := 8) (by decide)
  repeat' (first | with_reducible refine SeqQ_normal _ _ ?_ | rw [awp_seq] | simp only [pkS, TyB, Int.reduceEq, List.length_map, List.map_cons, Int.toNat_zero, Int.toNat_one, show Int.toNat 2 = 2 from rfl, show Int.toNat 3 = 3 from rfl, Nat.zero_mul, Nat.one_mul, Nat.mul_one, List.drop_zero, List.drop_succ_cons, w0, w1, w2, w3, e4, e6, e8, implies_true, forall_const, Nat.reduceSub, Nat.reduceEqDiff, Nat.reduceAdd, Nat.reduceMul, Nat.reduceLeDiff, Nat.reduceLT, Nat.reduceBEq, reduceCtorEq] | refine CallRG_no ?_ | refine CondR_of (fun hb => ?_) (fun hb => ?_) | (refine And.intro ?_ ?_; focus ((try with_reducible refine GIm_of ?_); first | (with_reducible rfl) | ((with_reducible first | refine rng_of ?_ | refine ordOK_of ?_ | refine chk_of ?_); kernel_rfl) | (intros; omega) | (intro q p; rw [q, p]; rfl) | (intro q; rw [q]; rfl) | (intro q; simp only [Bool.and_eq_true, decide_eq_true_eq, beq_iff_eq] at q; omega) | (intros; simp_all; done) | (intros; simp [List.range, List.range.loop]; done) | (intros; simp_all [List.range, List.range.loop]; done))) | refine And.intro (fun hg => ?_) (fun hg => ?_) | (with_reducible refine chk_of ?_; kernel_rfl) | fail)
  · have hf : batchB (x0 :: x1 :: x2 :: x3 :: l') = fillB := by
      unfold batchB
      rw [if_pos]
      right
      simp at hb
      rcases hb with hb | hb
      · omega
      · exact hb
    rw [hf]
    simp [rfsLe, rfLe, rosLe_cons, rosLe_nil, roLe, fillB]
  obtain ⟨l, hll⟩ : ∃ l, l = x0 :: x1 :: x2 :: x3 :: l' := ⟨_, rfl⟩
  have hE : uD x0 :: uD x1 :: uD x2 :: uD x3 :: List.map uD l' = bytesE l := by rw [hll]; rfl
  have hL : l'.length + 1 + 1 + 1 + 1 = l.length := by rw [hll]; rfl
  rw [hE, hL]
  -- state: the view, the tip, the time are those of the head
  have hbe : batchB (x0 :: x1 :: x2 :: x3 :: l') = ⟨false, ((x2.toNat % 8 : Nat) : Int), ⟨((x0.toNat % 4 : Nat) : Int), ((x1.toNat % 6 : Nat) : Int)⟩, x3, reqsB l [] l.length 4⟩ := by
    unfold batchB
    rw [if_neg (by simp at hb; simp; omega), hll]
    rfl
  rw [hbe]
  have hl' : l.length < 2 ^ 60 := by rw [hll]; exact hl
  have hu' : ∀ x ∈ l, u8 x := by rw [hll]; exact hu
  have h4' : 4 ≤ l.length := by rw [hll]; simp
  clear hbe hb hE hL hll h4 hl hu e4 e6 e8 w0 w1 w2 w3 u0 u1 u2 u3
  generalize ((x2.toNat % 8 : Nat) : Int) = V at *
  generalize ((x0.toNat % 4 : Nat) : Int) = TV at *
  generalize ((x1.toNat % 6 : Nat) : Int) = TS at *
  refine LoopR_fn (τ := Nat × Nat × List Req) (fun t => ⟨[al l.length (bytesE l), dd, .one (.ptr ⟨2, 0, 1⟩ 0), .one (.ptr ⟨3, 0, 1⟩ 0), ai t.2.1, dd, dd, dd, dd, dd, dd, dd, dd, dd, dd, dd, dd, dd, dd, dd, dd, dd, dd, dd, dd, dd, dd, dd, dd, dd, dd, dd, dd, dd, dd, dd, dd, dd, dd, dd, dd, dd, dd, dd, dd, dd, dd, dd, dd, dd, dd, dd, dd, dd, dd, dd, dd, dd, dd, dd, dd, dd, dd, dd, dd, dd, dd, dd, dd, dd, dd, dd, dd, dd, dd, dd, dd, dd, dd, dd, dd, dd, dd, dd, dd, dd, dd, dd, dd, dd, dd, dd, dd, dd, dd, dd, dd, dd, dd, dd, dd, dd, dd, dd, dd],
      [(2, { next := 2, l := [some { e := 1, var := true, fz := false, sz := 0, cells := [db false, di 0, di 0, di 0, di 0, .d (.v (.slice none 0 0))] }, none, none, none, none, none, none] }), (3, { next := 2, l := [some { e := 1, var := true, fz := false, sz := 0, cells := [db false, di V, di TV, di TS, di x3, .own ⟨3, 6, 1⟩ 0 t.2.2.length] }, none, none, none, none, none, some { e := 1, var := false, fz := false, sz := 5, cells := (reqsE t.2.2).map C.d }] }), (5, ⟨2, []⟩), (101, ⟨2, []⟩), (102, ⟨2, []⟩)]⟩)
    (fun t => l.length ≤ t.2.1 + t.1 ∧ t.2.1 ≤ l.length + 9 ∧ t.2.2.length ≤ 3) (fun t => reqsB l t.2.2 t.1 t.2.1) (fun t => t.1) (l.length, 4, [])
    ((Gh.nilF 3 5 5 rfl).trans (Gh.canon [2, 3] [5, 101, 102] [] (by simp only [fgc_dead, fgc_dv, fgc_lent, fgc_nil, fgc_ptr, fgc_own, List.set_cons_zero, List.set_cons_succ, and_true, true_and, Int.natCast_zero, Int.cast_ofNat_Int, D.v.injEq, Value.int.injEq]; try (repeat' (first | rfl | omega | with_reducible apply And.intro))) rfl rfl)) ⟨by simp only; omega, by simp only; omega, Nat.zero_le _⟩ ?_
  intro ⟨n, i, acc⟩ ⟨hn, hi9, ha3⟩ hF K hK
  simp only at hn hi9 ha3 hF hK ⊢
  have hwi : IntKind.i64.wrap ((i : Int) + 4) = ((i + 4 : Nat) : Int) := by rw [wrap64 (by omega) (by omega)]; rfl
  have hw5 : IntKind.i64.wrap ((i : Int) + 5) = ((i + 5 : Nat) : Int) := by rw [wrap64 (by omega) (by omega)]; rfl
  repeat' (first | with_reducible refine SeqQ_normal _ _ ?_ | rw [awp_seq] | simp only [pkS, TyB, hwi, implies_true, forall_const, Nat.reduceSub, Nat.reduceEqDiff, Nat.reduceAdd, Nat.reduceMul, Nat.reduceLeDiff, Nat.reduceLT, Nat.reduceBEq, reduceCtorEq] | refine CallRG_no ?_ | refine CondR_of (fun hb => ?_) (fun hb => ?_) | (refine And.intro ?_ ?_; focus ((try with_reducible refine GIm_of ?_); first | (with_reducible rfl) | ((with_reducible first | refine rng_of ?_ | refine ordOK_of ?_ | refine chk_of ?_); kernel_rfl) | (intros; omega) | (intro q p; rw [q, p]; rfl) | (intro q; rw [q]; rfl) | (intro q; simp only [Bool.and_eq_true, decide_eq_true_eq, beq_iff_eq] at q; omega) | (intros; simp_all; done) | (intros; simp [List.range, List.range.loop]; done) | (intros; simp_all [List.range, List.range.loop]; done))) | refine And.intro (fun hg => ?_) (fun hg => ?_) | (with_reducible refine chk_of ?_; kernel_rfl) | fail)
  · have hi : i + 4 < l.length := by simp at hb; omega
    have ha2 : acc.length < 3 := by simp at hb; omega
    have g0 := bytes_at (show i < l.length by omega)
    have g1 := bytes_at (show i + 1 < l.length by omega)
    have g2 := bytes_at (show i + 2 < l.length by omega)
    have g3 := bytes_at (show i + 3 < l.length by omega)
    have g4 := bytes_at hi
    have k1 : IntKind.i64.wrap ((i : Int) + 1) = ((i + 1 : Nat) : Int) := by rw [wrap64 (by omega) (by omega)]; rfl
    have k2 : IntKind.i64.wrap ((i : Int) + 2) = ((i + 2 : Nat) : Int) := by rw [wrap64 (by omega) (by omega)]; rfl
    have k3 : IntKind.i64.wrap ((i : Int) + 3) = ((i + 3 : Nat) : Int) := by rw [wrap64 (by omega) (by omega)]; rfl
    have um : ∀ k (h : k < l.length), u8 l[k] := fun k h => hu' _ (List.getElem_mem h)
    clear hb
    repeat' (first | with_reducible refine SeqQ_normal _ _ ?_ | rw [awp_seq] | simp only [pkS, TyB, hwi, k1, k2, k3, g0, g1, g2, g3, g4, Nat.mul_one, List.length_map, implies_true, forall_const, Nat.reduceSub, Nat.reduceEqDiff, Nat.reduceAdd, Nat.reduceMul, Nat.reduceLeDiff, Nat.reduceLT, Nat.reduceBEq, reduceCtorEq] | ((try refine CallRG_tt ?_); apply CallR_of; (solve | exact (req_ok4 _ _ _ _ _ (um _ _) (um _ _) (um _ _) (um _ _) (um _ _)) | (refine CallOK.le (req_ok4 _ _ _ _ _ (um _ _) (um _ _) (um _ _) (um _ _) (um _ _)) ?_; simp [argsLe, aLe, csLe, cLe]))) | (apply CallRG_of; (focus (intro _; (solve | exact (req_ok4 _ _ _ _ _ (um _ _) (um _ _) (um _ _) (um _ _) (um _ _)) | (refine CallOK.le (req_ok4 _ _ _ _ _ (um _ _) (um _ _) (um _ _) (um _ _) (um _ _)) ?_; simp [argsLe, aLe, csLe, cLe])))); (focus rfl)) | refine CallRG_no ?_ | refine CondR_of (fun hb => ?_) (fun hb => ?_) | (refine And.intro ?_ ?_; focus ((try with_reducible refine GIm_of ?_); first | (with_reducible rfl) | ((with_reducible first | refine rng_of ?_ | refine ordOK_of ?_ | refine chk_of ?_); kernel_rfl) | (intros; omega) | (intro q p; rw [q, p]; rfl) | (intro q; rw [q]; rfl) | (intro q; simp only [Bool.and_eq_true, decide_eq_true_eq, beq_iff_eq] at q; omega) | (intros; simp_all; done) | (intros; simp [List.range, List.range.loop]; done) | (intros; simp_all [List.range, List.range.loop]; done))) | refine And.intro (fun hg => ?_) (fun hg => ?_) | (with_reducible refine chk_of ?_; kernel_rfl) | fail)
    obtain ⟨r, hr⟩ : ∃ r, r = reqP l[i] l[i + 1] l[i + 2] l[i + 3] l[i + 4] := ⟨_, rfl⟩
    rw [← hr]
    have hf : reqsB l acc n i = reqsB l (if acc.any (fun o => o.client == r.client) = true then acc else acc ++ [r]) (n - 1) (i + 5) := by
      obtain ⟨m, rfl⟩ : ∃ m, n = m + 1 := ⟨n - 1, by omega⟩
      rw [reqsB, if_pos ⟨hi, ha2⟩]
      simp only [List.getD_eq_getElem?_getD, List.getElem?_eq_getElem (show i < l.length by omega), List.getElem?_eq_getElem (show i + 1 < l.length by omega), List.getElem?_eq_getElem (show i + 2 < l.length by omega),
        List.getElem?_eq_getElem (show i + 3 < l.length by omega), List.getElem?_eq_getElem hi, Option.getD_some, ← hr]
      rfl
    refine LoopR_fn (τ := Nat × Bool) (fun t => ⟨[al l.length (bytesE l), dd, .one (.ptr ⟨2, 0, 1⟩ 0), .one (.ptr ⟨3, 0, 1⟩ 0), ai i, .one (.ptr ⟨5, 0, 1⟩ 0), ab t.2, ai t.1, dd, dd, dd, dd, dd, dd, dd, dd, dd, dd, dd, dd, dd, dd, dd, dd, dd, dd, dd, dd, dd, dd, dd, dd, dd, dd, dd, dd, dd, dd, dd, dd, dd, dd, dd, dd, dd, dd, dd, dd, dd, dd, dd, dd, dd, dd, dd, dd, dd, dd, dd, dd, dd, dd, dd, dd, dd, dd, dd, dd, dd, dd, dd, dd, dd, dd, dd, dd, dd, dd, dd, dd, dd, dd, dd, dd, dd, dd, dd, dd, dd, dd, dd, dd, dd, dd, dd, dd, dd, dd, dd, dd, dd, dd, dd, dd, dd],
        [(2, { next := 2, l := [some { e := 1, var := true, fz := false, sz := 0, cells := [db false, di 0, di 0, di 0, di 0, .d (.v (.slice none 0 0))] }, none, none, none, none, none, none] }), (3, { next := 2, l := [some { e := 1, var := true, fz := false, sz := 0, cells := [db false, di V, di TV, di TS, di x3, .own ⟨3, 6, 1⟩ 0 acc.length] }, none, none, none, none, none, some { e := 1, var := false, fz := false, sz := 5, cells := (reqsE acc).map C.d }] }),
         (5, { next := 2, l := [some { e := 1, var := true, fz := false, sz := 0, cells := [.d (iD r.client), .d (iD r.seq), .d (iD r.kind), .d (iD r.session), .d (sD r.name)] }, none, none, none, none, none] }), (101, ⟨2, []⟩), (102, ⟨2, []⟩)]⟩)
      (fun t => t.1 ≤ acc.length) (fun t => t.2 || (acc.drop t.1).any (fun o => o.client == r.client)) (fun t => acc.length - t.1) (0, false)
      (Gh.canon [2, 3, 5] [] [] (by simp only [fgc_dead, fgc_dv, fgc_lent, fgc_nil, fgc_ptr, fgc_own, List.set_cons_zero, List.set_cons_succ, and_true, true_and, Int.natCast_zero, Int.cast_ofNat_Int, D.v.injEq, Value.int.injEq]; try (repeat' (first | rfl | omega | with_reducible apply And.intro))) rfl rfl) (Nat.zero_le _) ?_
    intro ⟨k, b⟩ hk0 hF2 K2 hK2
    simp only at hk0 hF2 hK2 ⊢
    repeat (first | with_reducible refine SeqQ_normal _ _ ?_ | with_reducible refine And.imp_right (SeqQ_normal _ _) ?_ | with_reducible refine And.imp_right (And.imp_right (SeqQ_normal _ _)) ?_ | with_reducible refine And.imp_right (And.imp_right (And.imp_right (SeqQ_normal _ _))) ?_ | rw [awp_seq] | simp only [pkS, TyB,  implies_true, forall_const, Nat.reduceSub, Nat.reduceEqDiff, Nat.reduceAdd, Nat.reduceMul, Nat.reduceLeDiff, Nat.reduceLT, Nat.reduceBEq, reduceCtorEq])
    refine CondR_of (fun hlt => ?_) (fun hge => ?_)
    · have hk : k < acc.length := by simpa using hlt
      have hat := reqs_at hk
      simp only [List.cons_append, List.nil_append] at hat
      repeat' (first | with_reducible refine SeqQ_normal _ _ ?_ | rw [awp_seq] | simp only [pkS, TyB, hat, reqs_len, List.length_map, toDs_map, sub_map, Nat.zero_mul, List.drop_zero, ← List.map_drop, List.map_cons, implies_true, forall_const, Nat.reduceSub, Nat.reduceEqDiff, Nat.reduceAdd, Nat.reduceMul, Nat.reduceLeDiff, Nat.reduceLT, Nat.reduceBEq, reduceCtorEq] | refine CallRG_no ?_ | refine CondR_of (fun hb => ?_) (fun hb => ?_) | (refine And.intro ?_ ?_; focus ((try with_reducible refine GIm_of ?_); first | (with_reducible rfl) | ((with_reducible first | refine rng_of ?_ | refine ordOK_of ?_ | refine chk_of ?_); kernel_rfl) | (intros; omega) | (intro q p; rw [q, p]; rfl) | (intro q; rw [q]; rfl) | (intro q; simp only [Bool.and_eq_true, decide_eq_true_eq, beq_iff_eq] at q; omega) | (intros; simp_all; done) | (intros; simp [List.range, List.range.loop]; done) | (intros; simp_all [List.range, List.range.loop]; done))) | refine And.intro (fun hg => ?_) (fun hg => ?_) | (with_reducible refine chk_of ?_; kernel_rfl) | fail)
      refine hK2 _ (k + 1, (b || acc[k].client == r.client)) (Gh.canon [2, 3, 5] [] [] (by simp only [i64_succ hk (by omega), fgc_dead, fgc_dv, fgc_lent, fgc_nil, fgc_ptr, fgc_own, List.set_cons_zero, List.set_cons_succ, and_true, true_and, Int.natCast_zero, Int.cast_ofNat_Int, D.v.injEq, Value.int.injEq]; try (repeat' (first | rfl | omega | with_reducible apply And.intro))) rfl rfl) hk ?_ (by simp only; omega)
      rw [List.drop_eq_getElem_cons hk, List.any_cons, Bool.or_assoc]
    · have hk : k = acc.length := by
        have : ¬ (k : Int) < acc.length := by simpa using hge
        omega
      rw [hk, List.drop_length, List.any_nil, List.drop_zero, Bool.or_false, Bool.false_or] at hF2
      rw [← hF2] at hf
      clear hF2 hK2
      have ht : (reqsE acc).take (acc.length * 5) = reqsE acc := List.take_of_length_le (by rw [reqs_len]; omega)
      repeat' (first | (with_reducible first | refine SeqQ_normal _ _ ?_ | refine CondR_tt ?_ | refine CondR_ff ?_) | rw [awp_seq] | simp only [pkS, TyB, ht, pkX, Int.reduceEq, implies_true, forall_const, Nat.reduceSub, Nat.reduceEqDiff, Nat.reduceAdd, Nat.reduceMul, Nat.reduceLeDiff, Nat.reduceLT, Nat.reduceBEq, reduceCtorEq] | refine CallRG_no ?_ | refine CondR_of (fun hb => ?_) (fun hb => ?_) | (refine And.intro ?_ ?_; focus ((try with_reducible refine GIm_of ?_); first | (with_reducible rfl) | ((with_reducible first | refine rng_of ?_ | refine ordOK_of ?_ | refine chk_of ?_); kernel_rfl) | (intros; omega) | (intro q p; rw [q, p]; rfl) | (intro q; rw [q]; rfl) | (intro q; simp only [Bool.and_eq_true, decide_eq_true_eq, beq_iff_eq] at q; omega) | (intros; simp_all; done) | (intros; simp [List.range, List.range.loop]; done) | (intros; simp_all [List.range, List.range.loop]; done))) | refine And.intro (fun hg => ?_) (fun hg => ?_) | (with_reducible refine chk_of ?_; kernel_rfl) | fail)
      · rw [if_neg (by simpa using hb)] at hf
        refine hK _ (n - 1, i + 5, acc ++ [r]) (Gh.canon [2, 3] [] [] (by simp only [hw5, fgc_dead, fgc_dv, fgc_lent, fgc_nil, fgc_ptr, fgc_own, List.set_cons_zero, List.set_cons_succ, and_true, true_and, Int.natCast_zero, Int.cast_ofNat_Int, D.v.injEq, Value.int.injEq]; try (repeat' (first | rfl | omega | with_reducible apply And.intro))) rfl (by simp only [List.length_append, List.length_singleton]; rw [reqsE_snoc]; rfl)) ⟨by simp only; omega, by simp only; omega, by simp only [List.length_append, List.length_singleton]; omega⟩ hf.symm (by simp only; omega)
      · rw [if_pos (by simpa using hb)] at hf
        refine hK _ (n - 1, i + 5, acc) (Gh.canon [2, 3] [] [] (by simp only [hw5, fgc_dead, fgc_dv, fgc_lent, fgc_nil, fgc_ptr, fgc_own, List.set_cons_zero, List.set_cons_succ, and_true, true_and, Int.natCast_zero, Int.cast_ofNat_Int, D.v.injEq, Value.int.injEq]; try (repeat' (first | rfl | omega | with_reducible apply And.intro))) rfl rfl) ⟨by simp only; omega, by simp only; omega, ha3⟩ hf.symm (by simp only; omega)
  · have hf : reqsB l acc n i = acc := by
      cases n with
      | zero => rfl
      | succ n => rw [reqsB, if_neg (by intro h; simp at hb; have := hb (by omega); omega)]
    rw [hf] at hF
    rw [← hF]
    repeat' (first | with_reducible refine SeqQ_normal _ _ ?_ | rw [awp_seq] | simp only [pkS, TyB, toDs_map, sub_map, Nat.zero_mul, List.drop_zero, implies_true, forall_const, Nat.reduceSub, Nat.reduceEqDiff, Nat.reduceAdd, Nat.reduceMul, Nat.reduceLeDiff, Nat.reduceLT, Nat.reduceBEq, reduceCtorEq] | refine CallRG_no ?_ | refine CondR_of (fun hb => ?_) (fun hb => ?_) | (refine And.intro ?_ ?_; focus ((try with_reducible refine GIm_of ?_); first | (with_reducible rfl) | ((with_reducible first | refine rng_of ?_ | refine ordOK_of ?_ | refine chk_of ?_); kernel_rfl) | (intros; omega) | (intro q p; rw [q, p]; rfl) | (intro q; rw [q]; rfl) | (intro q; simp only [Bool.and_eq_true, decide_eq_true_eq, beq_iff_eq] at q; omega) | (intros; simp_all; done) | (intros; simp [List.range, List.range.loop]; done) | (intros; simp_all [List.range, List.range.loop]; done))) | refine And.intro (fun hg => ?_) (fun hg => ?_) | (with_reducible refine chk_of ?_; kernel_rfl) | fail)
    simp [rfsLe, rfLe, rosLe_cons, rosLe_nil, roLe]
end Go.Proofs.YtgiempmfpmlgnaaGreat

