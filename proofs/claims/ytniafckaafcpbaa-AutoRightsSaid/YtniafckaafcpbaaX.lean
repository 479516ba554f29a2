/- Requests by numbers. -/
import Derived.Test.YtniafckaafcpbaaW
import Derived.Test.YtniafckaafcpbaaS
namespace Go.Proofs.Ytniafckaafcpbaa
open Go.Pk
set_option maxRecDepth 100000
set_option linter.unusedSimpArgs false
set_option linter.unusedVariables false
def byteI (n : Int) : Prop := 0 ≤ n ∧ n < 256
theorem byte_wrap {n : Int} (h : byteI n) : IntKind.i64.wrap n = n := by have := h; unfold byteI at this; exact wrap64 (by omega) (by omega)
theorem tmod_pos {n : Int} (h : 0 ≤ n) (k : Int) : n.tmod k = n % k := Int.tmod_eq_emod_of_nonneg h
def names4 : List ByteArray := [⟨#[97]⟩, ⟨#[98]⟩, ⟨#[99]⟩, ⟨#[100]⟩, ⟨#[107, 101, 121, 45, 49]⟩, ⟨#[116, 104, 101, 45, 108, 97, 115, 116, 45, 111, 110, 101]⟩]
def namedP (n : Int) : ByteArray := (names4[(n % 6).toNat]?).getD .empty
theorem six (n : Int) : n % 6 = 0 ∨ n % 6 = 1 ∨ n % 6 = 2 ∨ n % 6 = 3 ∨ n % 6 = 4 ∨ n % 6 = 5 := by omega
theorem named4_ok (n : Int) (hn : byteI n) : CallOK Try.prog 10 [.f (au n)] (fun r o => r = [.one (.d (sD (namedP n)))] ∧ o = []) := by
  refine callOK_of TOKTy mixed (T := Ty) (n := 9) Try.func10 (c := Try.f10.body.getD .skip) rfl Try.results10 Try.ntmps10 Try.call10 ?_
  simp only [Try.f10, Option.getD]
  have hw := byte_wrap hn
  have ht := tmod_pos hn.1 6
  unfold namedP
  rcases six n with h | h | h | h | h | h
  all_goals
    rw [h] at ht ⊢
    repeat' (first | (with_reducible first | refine SeqQ_normal _ _ ?_ | refine CondR_tt ?_ | refine CondR_ff ?_) | rw [awp_seq] | simp only [pkS, TyB, hw, ht, Int.reduceToNat, List.drop_succ_cons, List.drop_zero, pkY, Int.reduceEq, bne_self_eq_false, Int.reduceBEq, Int.reduceBNe, implies_true, forall_const, Nat.reduceSub, Nat.reduceEqDiff, Nat.reduceAdd, Nat.reduceMul, Nat.reduceLeDiff, Nat.reduceLT, Nat.reduceBEq, reduceCtorEq] | refine CallRG_no ?_ | refine CondR_of (fun hb => ?_) (fun hb => ?_) | (refine And.intro ?_ ?_; focus ((try with_reducible refine GIm_of ?_); first | (with_reducible rfl) | ((with_reducible first | refine rng_of ?_ | refine ordOK_of ?_ | refine chk_of ?_); kernel_rfl) | (intros; omega) | (intro q p; rw [q, p]; rfl) | (intro q; rw [q]; rfl) | (intro q; simp only [Bool.and_eq_true, decide_eq_true_eq, beq_iff_eq] at q; omega) | (intros; simp_all; done) | (intros; simp [List.range, List.range.loop]; done) | (intros; simp_all [List.range, List.range.loop]; done))) | refine And.intro (fun hg => ?_) (fun hg => ?_) | (with_reducible refine chk_of ?_; kernel_rfl) | fail)
    rfl
def kindP (a : Int) : Int := 1 + a % 6
def sessP (a b : Int) : Int := if kindP a = 1 then 0 else 1 + b % 7
def cmdNm (a c : Int) : ByteArray := if (kindP a == 3 || kindP a == 4 || kindP a == 5) = true then namedP c else .empty
theorem cmd4_ok (a b c : Int) (ha : byteI a) (hb : byteI b) (hc : byteI c) : CallOK Try.prog 52 [.f (au a), .f (au b), .f (au c)] (fun r o => r = [.agg [.d (iD (kindP a)), .d (iD (sessP a b)), .d (sD (cmdNm a c))]] ∧ o = []) := by
  refine callOK_of TOKTy mixed (T := Ty) (n := 30) Try.func52 (c := Try.f52.body.getD .skip) rfl Try.results52 Try.ntmps52 Try.call52 ?_
  simp only [Try.f52, Option.getD]
  have hnm := named4_ok c hc
  have hwa := byte_wrap ha
  have hwb := byte_wrap hb
  have hta := tmod_pos ha.1 6
  have htb := tmod_pos hb.1 7
  have hws : IntKind.i64.wrap (1 + b % 7) = 1 + b % 7 := wrap64 (by omega) (by omega)
  unfold cmdNm sessP kindP
  have w1 : IntKind.i64.wrap 1 = 1 := rfl
  have w2 : IntKind.i64.wrap 2 = 2 := rfl
  have w3 : IntKind.i64.wrap 3 = 3 := rfl
  have w4 : IntKind.i64.wrap 4 = 4 := rfl
  have w5 : IntKind.i64.wrap 5 = 5 := rfl
  have w6 : IntKind.i64.wrap 6 = 6 := rfl
  rcases six a with h | h | h | h | h | h
  all_goals
    rw [h] at hta ⊢
    repeat' (first | (with_reducible first | refine SeqQ_normal _ _ ?_ | refine CondR_tt ?_ | refine CondR_ff ?_) | rw [awp_seq] | simp only [pkS, TyB, hwa, hwb, hta, htb, hws, w1, w2, w3, w4, w5, w6, Int.reduceAdd, Int.reduceEq, Int.reduceBEq, pkY, Int.reduceEq, bne_self_eq_false, Int.reduceBEq, Int.reduceBNe, implies_true, forall_const, Nat.reduceSub, Nat.reduceEqDiff, Nat.reduceAdd, Nat.reduceMul, Nat.reduceLeDiff, Nat.reduceLT, Nat.reduceBEq, reduceCtorEq] | ((try refine CallRG_tt ?_); apply CallR_of; (solve | exact (hnm) | (refine CallOK.le (hnm) ?_; simp [argsLe, aLe, csLe, cLe]))) | (apply CallRG_of; (focus (intro _; (solve | exact (hnm) | (refine CallOK.le (hnm) ?_; simp [argsLe, aLe, csLe, cLe])))); (focus rfl)) | refine CallRG_no ?_ | refine CondR_of (fun hb => ?_) (fun hb => ?_) | (refine And.intro ?_ ?_; focus ((try with_reducible refine GIm_of ?_); first | (with_reducible rfl) | ((with_reducible first | refine rng_of ?_ | refine ordOK_of ?_ | refine chk_of ?_); kernel_rfl) | (intros; omega) | (intro q p; rw [q, p]; rfl) | (intro q; rw [q]; rfl) | (intro q; simp only [Bool.and_eq_true, decide_eq_true_eq, beq_iff_eq] at q; omega) | (intros; simp_all; done) | (intros; simp [List.range, List.range.loop]; done) | (intros; simp_all [List.range, List.range.loop]; done))) | refine And.intro (fun hg => ?_) (fun hg => ?_) | (with_reducible refine chk_of ?_; kernel_rfl) | fail)
/-- An act: bytes. -/
structure Act where
  time : Int
  client : Int
  seq : Int
  kind : Int
  session : Int
  name : Int
abbrev Act.enc (a : Act) : List D := [uD a.time, uD a.client, uD a.seq, uD a.kind, uD a.session, uD a.name]
abbrev actsE (l : List Act) : List D := l.flatMap Act.enc
def actOk (a : Act) : Prop := byteI a.time ∧ byteI a.client ∧ byteI a.seq ∧ byteI a.kind ∧ byteI a.session ∧ byteI a.name
theorem acts_at {l : List Act} {i : Nat} (hi : i < l.length) : (actsE l).drop (i * 6) = l[i].enc ++ (actsE (l.drop (i + 1))) := drop_enc _ 6 l i hi fun _ => rfl
theorem acts_len {l : List Act} : (actsE l).length = l.length * 6 := len_enc _ 6 (fun _ => rfl) l
def reqN (c q k s n : Int) : Req := ⟨c % 8, 1 + q, kindP k, sessP k s, cmdNm k n⟩
theorem req4_ok (c q k s n : Int) (h1 : byteI c) (h2 : byteI q) (h3 : byteI k) (h4 : byteI s) (h5 : byteI n) : CallOK Try.prog 23 [.f (au c), .f (au q), .f (au k), .f (au s), .f (au n)] (fun r o => r = [.agg ((reqN c q k s n).enc.map RO.d)] ∧ o = []) := by
  refine callOK_of TOKTy mixed (T := Ty) (n := 22) Try.func23 (c := Try.f23.body.getD .skip) rfl Try.results23 Try.ntmps23 Try.call23 ?_
  simp only [Try.f23, Option.getD]
  have hcm := cmd4_ok k s n h3 h4 h5
  have hwc := byte_wrap h1
  have hwq := byte_wrap h2
  have htc := tmod_pos h1.1 8
  have hq1 : IntKind.i64.wrap (1 + q) = 1 + q := by unfold byteI at h2; exact wrap64 (by omega) (by omega)
  repeat' (first | (with_reducible first | refine SeqQ_normal _ _ ?_ | refine CondR_tt ?_ | refine CondR_ff ?_) | rw [awp_seq] | simp only [pkS, TyB, hwc, hwq, htc, hq1, pkY, Int.reduceEq, bne_self_eq_false, Int.reduceBEq, Int.reduceBNe, implies_true, forall_const, Nat.reduceSub, Nat.reduceEqDiff, Nat.reduceAdd, Nat.reduceMul, Nat.reduceLeDiff, Nat.reduceLT, Nat.reduceBEq, reduceCtorEq] | ((try refine CallRG_tt ?_); apply CallR_of; (solve | exact (hcm) | (refine CallOK.le (hcm) ?_; simp [argsLe, aLe, csLe, cLe]))) | (apply CallRG_of; (focus (intro _; (solve | exact (hcm) | (refine CallOK.le (hcm) ?_; simp [argsLe, aLe, csLe, cLe])))); (focus rfl)) | refine CallRG_no ?_ | refine CondR_of (fun hb => ?_) (fun hb => ?_) | (refine And.intro ?_ ?_; focus ((try with_reducible refine GIm_of ?_); first | (with_reducible rfl) | ((with_reducible first | refine rng_of ?_ | refine ordOK_of ?_ | refine chk_of ?_); kernel_rfl) | (intros; omega) | (intro q p; rw [q, p]; rfl) | (intro q; rw [q]; rfl) | (intro q; simp only [Bool.and_eq_true, decide_eq_true_eq, beq_iff_eq] at q; omega) | (intros; simp_all; done) | (intros; simp [List.range, List.range.loop]; done) | (intros; simp_all [List.range, List.range.loop]; done))) | refine And.intro (fun hg => ?_) (fun hg => ?_) | (with_reducible refine chk_of ?_; kernel_rfl) | fail)
  rfl
theorem rlast_ok (l : List Memo) (hl : l.length < 2 ^ 62) (c : Int) : CallOK Try.prog 24 [.f (al l.length (memosE l)), .f (ai c)]
    (fun r o => r = [.agg (((findM l c).getD noMemo).enc.map RO.d), rb (findM l c).isSome] ∧ o = []) := by
  refine CallOK.nil ?_
  refine callOK_of TOKTy mixed (T := Ty) (n := 25) Try.func24 (c := Try.f24.body.getD .skip) rfl Try.results24 Try.ntmps24 Try.call24 ?_
  simp only [Try.f24, Option.getD]
  repeat' (first | (with_reducible first | refine SeqQ_normal _ _ ?_ | refine CondR_tt ?_ | refine CondR_ff ?_) | rw [awp_seq] | simp only [pkS, TyB, pkY, Int.reduceEq, bne_self_eq_false, Int.reduceBEq, Int.reduceBNe, implies_true, forall_const, Nat.reduceSub, Nat.reduceEqDiff, Nat.reduceAdd, Nat.reduceMul, Nat.reduceLeDiff, Nat.reduceLT, Nat.reduceBEq, reduceCtorEq] | refine CallRG_no ?_ | refine CondR_of (fun hb => ?_) (fun hb => ?_) | (refine And.intro ?_ ?_; focus ((try with_reducible refine GIm_of ?_); first | (with_reducible rfl) | ((with_reducible first | refine rng_of ?_ | refine ordOK_of ?_ | refine chk_of ?_); kernel_rfl) | (intros; omega) | (intro q p; rw [q, p]; rfl) | (intro q; rw [q]; rfl) | (intro q; simp only [Bool.and_eq_true, decide_eq_true_eq, beq_iff_eq] at q; omega) | (intros; simp_all; done) | (intros; simp [List.range, List.range.loop]; done) | (intros; simp_all [List.range, List.range.loop]; done))) | refine And.intro (fun hg => ?_) (fun hg => ?_) | (with_reducible refine chk_of ?_; kernel_rfl) | fail)
  refine LoopR_fn (τ := Nat) (fun i => ⟨[al l.length (memosE l), ai c, dd, dd, .one (.ptr ⟨4, 0, 1⟩ 0), dd, ai i, dd, dd, dd, dd, dd, dd, dd, dd, dd, dd, dd, dd, dd, dd, dd, dd, dd, dd], [(4, { next := 2, l := [some { e := 1, var := true, fz := false, sz := 0, cells := [di 0, di 0, di 0, di 0, di 0, .d (.v (.slice none 0 0))] }, none, none, none, none, none, none] })]⟩)
    (fun i => i ≤ l.length) (fun i => findM (l.drop i) c) (fun i => l.length - i) 0
    (Gh.canon [4] [] [] (by simp only [fgc_dead, fgc_dv, fgc_lent, fgc_nil, fgc_ptr, fgc_own, List.set_cons_zero, List.set_cons_succ, and_true, true_and, Int.natCast_zero, Int.cast_ofNat_Int, D.v.injEq, Value.int.injEq]; try (repeat' (first | rfl | omega | with_reducible apply And.intro))) rfl rfl) (Nat.zero_le _) ?_
  intro i hi0 hF K hK
  rw [List.drop_zero] at hF
  repeat (first | with_reducible refine SeqQ_normal _ _ ?_ | with_reducible refine And.imp_right (SeqQ_normal _ _) ?_ | with_reducible refine And.imp_right (And.imp_right (SeqQ_normal _ _)) ?_ | with_reducible refine And.imp_right (And.imp_right (And.imp_right (SeqQ_normal _ _))) ?_ | rw [awp_seq] | simp only [pkS, TyB,  implies_true, forall_const, Nat.reduceSub, Nat.reduceEqDiff, Nat.reduceAdd, Nat.reduceMul, Nat.reduceLeDiff, Nat.reduceLT, Nat.reduceBEq, reduceCtorEq])
  refine CondR_of (fun hlt => ?_) (fun hge => ?_)
  · have hi : i < l.length := by simpa using hlt
    have hat := memos_at hi
    have hw := i64_succ hi hl
    have hq : findM (l.drop i) c = if (l[i].client == c) = true then some l[i] else findM (l.drop (i + 1)) c := by
      unfold findM
      rw [List.drop_eq_getElem_cons hi, List.find?_cons]
      cases l[i].client == c <;> rfl
    rw [hq] at hF
    repeat' (first | (with_reducible first | refine SeqQ_normal _ _ ?_ | refine CondR_tt ?_ | refine CondR_ff ?_) | rw [awp_seq] | simp only [pkS, TyB, hat, List.cons_append, List.nil_append, memos_len, pkY, Int.reduceEq, bne_self_eq_false, Int.reduceBEq, Int.reduceBNe, implies_true, forall_const, Nat.reduceSub, Nat.reduceEqDiff, Nat.reduceAdd, Nat.reduceMul, Nat.reduceLeDiff, Nat.reduceLT, Nat.reduceBEq, reduceCtorEq] | refine CallRG_no ?_ | refine CondR_of (fun hb => ?_) (fun hb => ?_) | (refine And.intro ?_ ?_; focus ((try with_reducible refine GIm_of ?_); first | (with_reducible rfl) | ((with_reducible first | refine rng_of ?_ | refine ordOK_of ?_ | refine chk_of ?_); kernel_rfl) | (intros; omega) | (intro q p; rw [q, p]; rfl) | (intro q; rw [q]; rfl) | (intro q; simp only [Bool.and_eq_true, decide_eq_true_eq, beq_iff_eq] at q; omega) | (intros; simp_all; done) | (intros; simp [List.range, List.range.loop]; done) | (intros; simp_all [List.range, List.range.loop]; done))) | refine And.intro (fun hg => ?_) (fun hg => ?_) | (with_reducible refine chk_of ?_; kernel_rfl) | fail)
    · rw [if_pos hb] at hF
      rw [← hF]
      simp [rfsLe, rfLe, rosLe, roLe]
    · rw [if_neg (by rw [hb]; simp)] at hq
      exact hK _ (i + 1) (Gh.canon [4] [] [] (by simp only [hw, fgc_dead, fgc_dv, fgc_lent, fgc_nil, fgc_ptr, fgc_own, List.set_cons_zero, List.set_cons_succ, and_true, true_and, Int.natCast_zero, Int.cast_ofNat_Int, D.v.injEq, Value.int.injEq]; try (repeat' (first | rfl | omega | with_reducible apply And.intro))) rfl rfl) hi hq.symm (by omega)
  · have hi : i = l.length := by
      have : ¬ (i : Int) < l.length := by simpa using hge
      omega
    rw [hi, List.drop_length] at hF
    have hF : none = findM l c := hF
    rw [← hF]
    repeat' (first | (with_reducible first | refine SeqQ_normal _ _ ?_ | refine CondR_tt ?_ | refine CondR_ff ?_) | rw [awp_seq] | simp only [pkS, TyB, pkY, Int.reduceEq, bne_self_eq_false, Int.reduceBEq, Int.reduceBNe, implies_true, forall_const, Nat.reduceSub, Nat.reduceEqDiff, Nat.reduceAdd, Nat.reduceMul, Nat.reduceLeDiff, Nat.reduceLT, Nat.reduceBEq, reduceCtorEq] | refine CallRG_no ?_ | refine CondR_of (fun hb => ?_) (fun hb => ?_) | (refine And.intro ?_ ?_; focus ((try with_reducible refine GIm_of ?_); first | (with_reducible rfl) | ((with_reducible first | refine rng_of ?_ | refine ordOK_of ?_ | refine chk_of ?_); kernel_rfl) | (intros; omega) | (intro q p; rw [q, p]; rfl) | (intro q; rw [q]; rfl) | (intro q; simp only [Bool.and_eq_true, decide_eq_true_eq, beq_iff_eq] at q; omega) | (intros; simp_all; done) | (intros; simp [List.range, List.range.loop]; done) | (intros; simp_all [List.range, List.range.loop]; done))) | refine And.intro (fun hg => ?_) (fun hg => ?_) | (with_reducible refine chk_of ?_; kernel_rfl) | fail)
    simp [rfsLe, rfLe, rosLe, roLe, noMemo]
/-- An act's request. -/
def reqA (s : St) (a : Act) : Req :=
  let r := reqN a.client (a.seq % 6) a.kind a.session a.name
  let b1 := (findS s.sess r.client).isSome && decide (a.session % 8 > 0) && (r.kind != 1)
  let b2 := !(findS s.sess r.client).isSome && decide (a.session % 4 > 0)
  ⟨r.client, if decide (a.seq % 5 > 0) = true then (if (findM s.memos r.client).isSome = true then ((findM s.memos r.client).getD noMemo).seq + 1 else 1) else r.seq,
    if b2 = true then 1 else r.kind, if b2 = true then 0 else if b1 = true then ((findS s.sess r.client).getD noSess).num else r.session, if b2 = true then .empty else r.name⟩
set_option maxHeartbeats 4000000 in
theorem request_ok (s : St) (h : Small s) (hr : RightS s) (a : Act) (ha : actOk a) : CallOK Try.prog 7 [.f (.agg s.lent), .f (.agg (a.enc.map C.d))] (fun r o => r = [.agg ((reqA s a).enc.map RO.d)] ∧ o = []) := by
  refine callOK_of TOKTy mixed (T := Ty) (n := 76) Try.func7 (c := Try.f7.body.getD .skip) rfl Try.results7 Try.ntmps7 Try.call7 ?_
  simp only [Try.f7, Option.getD]
  obtain ⟨_, h1, h2, h3, h4, h5⟩ := ha
  have hrq := req4_ok a.client (a.seq % 6) a.kind a.session a.name h1 (by unfold byteI; omega) h3 h4 h5
  generalize hN : reqN a.client (a.seq % 6) a.kind a.session a.name = r at *
  have hla := rlast_ok s.memos (by have := h.memos; omega) r.client
  have hfi := rfind_ok s.sess (by have := h.sess; omega) r.client
  have ht6 := tmod_pos h2.1 6
  have ht5 := tmod_pos h2.1 5
  have ht8 := tmod_pos h4.1 8
  have ht4 := tmod_pos h4.1 4
  have hwm : IntKind.i64.wrap (((findM s.memos r.client).getD noMemo).seq + 1) = ((findM s.memos r.client).getD noMemo).seq + 1 := by
    have hb : 0 ≤ ((findM s.memos r.client).getD noMemo).seq ∧ ((findM s.memos r.client).getD noMemo).seq ≤ High := by
      cases hf : findM s.memos r.client with
      | none => decide
      | some m =>
        have := (answer_client (hr.mok m (List.mem_of_find?_eq_some hf))).2.1
        simp only [Option.getD_some]; omega
    have hH : High = 2305843009213693952 := rfl
    exact wrap64 (by omega) (by omega)
  have hR : reqA s a = ⟨r.client, if decide (a.seq % 5 > 0) = true then (if (findM s.memos r.client).isSome = true then ((findM s.memos r.client).getD noMemo).seq + 1 else 1) else r.seq,
    if (!(findS s.sess r.client).isSome && decide (a.session % 4 > 0)) = true then 1 else r.kind, if (!(findS s.sess r.client).isSome && decide (a.session % 4 > 0)) = true then 0 else if ((findS s.sess r.client).isSome && decide (a.session % 8 > 0) && (r.kind != 1)) = true then ((findS s.sess r.client).getD noSess).num else r.session,
    if (!(findS s.sess r.client).isSome && decide (a.session % 4 > 0)) = true then .empty else r.name⟩ := by unfold reqA; rw [hN]
  generalize reqA s a = R at hR ⊢
  repeat' (first | (with_reducible first | refine SeqQ_normal _ _ ?_ | refine CondR_tt ?_ | refine CondR_ff ?_) | rw [awp_seq] | simp only [pkS, TyB, ht6, ht5, ht8, ht4, hwm, pkY, Int.reduceEq, bne_self_eq_false, Int.reduceBEq, Int.reduceBNe, implies_true, forall_const, Nat.reduceSub, Nat.reduceEqDiff, Nat.reduceAdd, Nat.reduceMul, Nat.reduceLeDiff, Nat.reduceLT, Nat.reduceBEq, reduceCtorEq] | ((try refine CallRG_tt ?_); apply CallR_of; (solve | exact (hrq) | exact (hla) | exact (hfi) | (refine CallOK.le (hrq) ?_; simp [argsLe, aLe, csLe, cLe]) | (refine CallOK.le (hla) ?_; simp [argsLe, aLe, csLe, cLe]) | (refine CallOK.le (hfi) ?_; simp [argsLe, aLe, csLe, cLe]))) | (apply CallRG_of; (focus (intro _; (solve | exact (hrq) | exact (hla) | exact (hfi) | (refine CallOK.le (hrq) ?_; simp [argsLe, aLe, csLe, cLe]) | (refine CallOK.le (hla) ?_; simp [argsLe, aLe, csLe, cLe]) | (refine CallOK.le (hfi) ?_; simp [argsLe, aLe, csLe, cLe])))); (focus rfl)) | refine CallRG_no ?_ | refine CondR_of (fun hb => ?_) (fun hb => ?_) | (refine And.intro ?_ ?_; focus ((try with_reducible refine GIm_of ?_); first | (with_reducible rfl) | ((with_reducible first | refine rng_of ?_ | refine ordOK_of ?_ | refine chk_of ?_); kernel_rfl) | (intros; omega) | (intro q p; rw [q, p]; rfl) | (intro q; rw [q]; rfl) | (intro q; simp only [Bool.and_eq_true, decide_eq_true_eq, beq_iff_eq] at q; omega) | (intros; simp_all; done) | (intros; simp [List.range, List.range.loop]; done) | (intros; simp_all [List.range, List.range.loop]; done))) | refine And.intro (fun hg => ?_) (fun hg => ?_) | (with_reducible refine chk_of ?_; kernel_rfl) | fail)
  all_goals clear hrq hla hfi ht6 ht5 ht8 ht4 hwm hN h hr h1 h2 h3 h4 h5
  all_goals subst hR
  all_goals simp only [*, if_true, Bool.false_eq_true, if_false]
end Go.Proofs.Ytniafckaafcpbaa

