/- ClientTurns. -/
import Derived.Test.YtiegkabcgokhkaaOH
namespace Go.Proofs.Ytiegkabcgokhkaa
open Go.Pk
set_option maxRecDepth 100000
set_option linter.unusedSimpArgs false
set_option linter.unusedVariables false
theorem bytesOf_map : ∀ l : List Int, bytesOf (bytesE l) = some (l.map fun n => UInt8.ofNat n.toNat)
  | [] => rfl
  | n :: l => by
    have := bytesOf_map l
    simp only [bytesE, List.map_cons, bytesOf] at this ⊢
    rw [this]
theorem packB_map (r : Req) : ∃ l : List Int, packB r = bytesE l :=
  ⟨1 :: r.client :: (numB r.seq ++ r.kind :: (numB r.session ++ (r.name.size : Int) :: r.name.data.toList.map fun b => (b.toNat : Int))), by
    simp [packB, reqB, cmdB, textB, bytesE, textE, List.map_append]⟩
theorem packB_bytes (r : Req) : ∃ bs, bytesOf (packB r) = some bs := by
  obtain ⟨l, h⟩ := packB_map r
  exact ⟨_, by rw [h]; exact bytesOf_map l⟩
/-- The client behind some steps. -/
structure TInv (c : Conf) (me : Int) (i : Nat) (K : Cli) (now : Int) : Prop where
  b : K.busy = true
  cc : K.c = c
  o : K.out = rq me
  l : 0 ≤ K.last ∧ K.last ≤ now
  n : 0 ≤ now ∧ now ≤ 12 * (i : Int)
  t : 0 ≤ K.turn ∧ K.turn < c.replicas
set_option maxHeartbeats 8000000 in
theorem clientTurns_of (ns : List Int) (id : Int) (st : List Int) (hl : ns.length < 2 ^ 60) (hn : ∀ n ∈ ns, byteI n) (hid : byteI id) (hsl : st.length < 2 ^ 60) (hs : ∀ n ∈ st, byteI n) :
    CallOK Try.prog 3 [.f (al ns.length (bytesE ns)), .f (au id), .f (al st.length (bytesE st))] (fun r o => r = [rb true] ∧ o = []) := by
  refine callOK_of TOKTy mixed (T := Ty) (n := 120) Try.func3 (c := Try.f3.body.getD .skip) rfl Try.results3 Try.ntmps3 Try.call3 ?_
  simp only [Try.f3, Option.getD]
  have hawake := awake_ok
  cases hbig : decide ((st.length : Int) > 60)
  · have hcf := conf_ok ns hl hn
    have hco := confP_ok hn
    have hci := confI_in hn (min ns.length 11)
    obtain ⟨c, hc⟩ : ∃ c, c = confP ns := ⟨_, rfl⟩
    rw [← hc] at hcf hco
    change ConfIn (confP ns) at hci
    rw [← hc] at hci
    unfold byteI at hid
    have hcl := hci.cl
    have hrp := hci.r
    have hrt := hci.retry
    have c0 : c.clients ≠ 0 := by omega
    have r0 : c.replicas ≠ 0 := by omega
    have hw1 : IntKind.i64.wrap id = id := wrap64 (by omega) (by omega)
    have htm : id.tmod c.clients = id % c.clients := Int.tmod_eq_emod_of_nonneg hid.1
    obtain ⟨me, hme⟩ : ∃ me, me = id % c.clients := ⟨_, rfl⟩
    rw [← hme] at htm
    have hm0 : 0 ≤ me ∧ me < c.clients := by rw [hme]; exact ⟨Int.emod_nonneg _ c0, Int.emod_lt_of_pos _ (by omega)⟩
    have hw2 : IntKind.i64.wrap me = me := wrap64 (by omega) (by omega)
    have htm2 : me.tmod c.replicas = me % c.replicas := Int.tmod_eq_emod_of_nonneg hm0.1
    have ht0 : 0 ≤ me % c.replicas ∧ me % c.replicas < c.replicas := ⟨Int.emod_nonneg _ r0, Int.emod_lt_of_pos _ (by omega)⟩
    have hw3 : IntKind.i64.wrap (me % c.replicas) = me % c.replicas := wrap64 (by omega) (by omega)
    have hnw := new_ok c me hco hm0
    have hak := ask_ok (newK c me) 3 nmA (by decide) (by simp [newK])
    rw [kAsk_eq] at hak
    have hop := open_ok (kAsk c me) 0 ⟨3, 0, nmA⟩ [] (by decide) rfl rfl (by decide) rfl rfl ⟨Int.le_refl _, by simp only [kAsk]; decide⟩ (by simp only [kAsk]; omega)
    rw [kOpen_eq] at hop
    obtain ⟨K0, hK0⟩ : ∃ K, K = kOpen c me := ⟨_, rfl⟩
    have k1 : K0.turn = me % c.replicas := by rw [hK0]; rfl
    have hinv : TInv c me 0 K0 0 := by rw [hK0]; exact ⟨rfl, rfl, rfl, by simp only [kOpen]; omega, by omega, ht0⟩
    have kl : K0.last = 0 := by rw [hK0]; rfl
    rw [← hK0] at hop
    obtain ⟨bs, hbs⟩ := packB_bytes (rq me)
    have hbs0 : bytesOf (packB K0.out) = some bs := by rw [hinv.o]; exact hbs
    have g1 : (K0.turn != me % c.replicas) = false := by rw [k1]; simp
    clear hcf hid
    have hcf := conf_ok ns hl hn
    rw [← hc] at hcf
    repeat' (first | (with_reducible first | refine SeqQ_normal _ _ ?_ | refine CondR_tt ?_ | refine CondR_ff ?_) | rw [awp_seq] | simp only [pkS, TyB, hbig, hw1, htm, hw2, if_neg c0, pkY, Int.reduceEq, bne_self_eq_false, Int.reduceBEq, Int.reduceBNe, implies_true, forall_const, Nat.reduceSub, Nat.reduceEqDiff, Nat.reduceAdd, Nat.reduceMul, Nat.reduceLeDiff, Nat.reduceLT, Nat.reduceBEq, reduceCtorEq] | ((try refine CallRG_tt ?_); apply CallR_of; (solve | exact (hcf) | (refine CallOK.le (hcf) ?_; simp [argsLe, aLe, csLe, cLe]))) | (apply CallRG_of; (focus (intro _; (solve | exact (hcf) | (refine CallOK.le (hcf) ?_; simp [argsLe, aLe, csLe, cLe])))); (focus rfl)) | refine CallP_of (hnw) ?_ | (refine CallP_of (CallP.le (hnw) ?_) ?_; focus (simp [argsLe, aLe, csLe, cLe] <;> fail)) | refine CallRG_no ?_ | refine CondR_of (fun hb => ?_) (fun hb => ?_) | (refine And.intro ?_ ?_; focus ((try with_reducible refine GIm_of ?_); first | (with_reducible rfl) | ((with_reducible first | refine rng_of ?_ | refine ordOK_of ?_ | refine chk_of ?_); kernel_rfl) | (intros; omega) | (intro q p; rw [q, p]; rfl) | (intro q; rw [q]; rfl) | (intro q; simp only [Bool.and_eq_true, decide_eq_true_eq, beq_iff_eq] at q; omega) | (intros; simp_all; done) | (intros; simp [List.range, List.range.loop]; done) | (intros; simp_all [List.range, List.range.loop]; done))) | refine And.intro (fun hg => ?_) (fun hg => ?_) | (with_reducible refine chk_of ?_; kernel_rfl) | fail)
    refine CallRG_tt ?_
    refine CallMJ_of (mv := ?mv1) (lent := ?le1) (x := ?x1) (ass := ?ass1) ?ha1 (hak) ?hr1 rfl ?hs1 ?hb1 ?hc1
    case ha1 => (try simp only [pkS, TyB, pkY, Int.reduceEq, bne_self_eq_false, Int.reduceBEq, Int.reduceBNe, nmA, implies_true, forall_const, Nat.reduceSub, Nat.reduceEqDiff, Nat.reduceAdd, Nat.reduceMul, Nat.reduceLeDiff, Nat.reduceLT, Nat.reduceBEq, reduceCtorEq]); exact rfl
    case hr1 => simp [rosA, roA, nmA]
    case hs1 => simp [argsLe, aLe, csLe, cLe, nmA]
    case hb1 => (try simp only [pkS, TyB, scM, nmA, implies_true, forall_const, Nat.reduceSub, Nat.reduceEqDiff, Nat.reduceAdd, Nat.reduceMul, Nat.reduceLeDiff, Nat.reduceLT, Nat.reduceBEq, reduceCtorEq]); repeat' (first | rfl | trivial | omega | with_reducible refine And.intro ?_ ?_)
    show aops _ _ _ _ _ _ _ _
    repeat' (first | (with_reducible first | refine SeqQ_normal _ _ ?_ | refine CondR_tt ?_ | refine CondR_ff ?_) | rw [awp_seq] | simp only [pkS, TyB, htm2, hw3, if_neg r0, pkY, Int.reduceEq, bne_self_eq_false, Int.reduceBEq, Int.reduceBNe, implies_true, forall_const, Nat.reduceSub, Nat.reduceEqDiff, Nat.reduceAdd, Nat.reduceMul, Nat.reduceLeDiff, Nat.reduceLT, Nat.reduceBEq, reduceCtorEq] | refine CallRG_no ?_ | refine CondR_of (fun hb => ?_) (fun hb => ?_) | (refine And.intro ?_ ?_; focus ((try with_reducible refine GIm_of ?_); first | (with_reducible rfl) | ((with_reducible first | refine rng_of ?_ | refine ordOK_of ?_ | refine chk_of ?_); kernel_rfl) | (intros; omega) | (intro q p; rw [q, p]; rfl) | (intro q; rw [q]; rfl) | (intro q; simp only [Bool.and_eq_true, decide_eq_true_eq, beq_iff_eq] at q; omega) | (intros; simp_all; done) | (intros; simp [List.range, List.range.loop]; done) | (intros; simp_all [List.range, List.range.loop]; done))) | refine And.intro (fun hg => ?_) (fun hg => ?_) | (with_reducible refine chk_of ?_; kernel_rfl) | fail)
    refine CallMJ_of (mv := ?mv2) (lent := ?le2) (x := ?x2) (ass := ?ass2) ?ha2 (hop) ?hr2 rfl ?hs2 ?hb2 ?hc2
    case ha2 => (try simp only [pkS, TyB, pkY, Int.reduceEq, bne_self_eq_false, Int.reduceBEq, Int.reduceBNe, implies_true, forall_const, Nat.reduceSub, Nat.reduceEqDiff, Nat.reduceAdd, Nat.reduceMul, Nat.reduceLeDiff, Nat.reduceLT, Nat.reduceBEq, reduceCtorEq]); exact rfl
    case hr2 => simp [rosA, roA]
    case hs2 => simp [argsLe, aLe, csLe, cLe]
    case hb2 => (try simp only [pkS, TyB, scM, implies_true, forall_const, Nat.reduceSub, Nat.reduceEqDiff, Nat.reduceAdd, Nat.reduceMul, Nat.reduceLeDiff, Nat.reduceLT, Nat.reduceBEq, reduceCtorEq]); repeat' (first | rfl | trivial | omega | with_reducible refine And.intro ?_ ?_)
    show aops _ _ _ _ _ _ _ _
    have g0 : (((1 : Nat) : Int) != 1) = false := rfl
    repeat' (first | (with_reducible first | refine SeqQ_normal _ _ ?_ | refine CondR_tt ?_ | refine CondR_ff ?_) | rw [awp_seq] | simp only [pkS, TyB, g0, g1, hbs0, pkY, Int.reduceEq, bne_self_eq_false, Int.reduceBEq, Int.reduceBNe, implies_true, forall_const, Nat.reduceSub, Nat.reduceEqDiff, Nat.reduceAdd, Nat.reduceMul, Nat.reduceLeDiff, Nat.reduceLT, Nat.reduceBEq, reduceCtorEq] | refine CallRG_no ?_ | refine CondR_of (fun hb => ?_) (fun hb => ?_) | (refine And.intro ?_ ?_; focus ((try with_reducible refine GIm_of ?_); first | (with_reducible rfl) | ((with_reducible first | refine rng_of ?_ | refine ordOK_of ?_ | refine chk_of ?_); kernel_rfl) | (intros; omega) | (intro q p; rw [q, p]; rfl) | (intro q; rw [q]; rfl) | (intro q; simp only [Bool.and_eq_true, decide_eq_true_eq, beq_iff_eq] at q; omega) | (intros; simp_all; done) | (intros; simp [List.range, List.range.loop]; done) | (intros; simp_all [List.range, List.range.loop]; done))) | refine And.intro (fun hg => ?_) (fun hg => ?_) | (with_reducible refine chk_of ?_; kernel_rfl) | fail)
    clear hop hak hnw hcf
    clear g1 hbs0 hK0
    refine LoopR_ix Ty Try.prog (τ := Nat × Cli × Int) (fun t => ⟨[dd, dd, al st.length (bytesE st), dd, dd, dd, dd, .one (.ptr ⟨7, 0, 1⟩ 0), dd, .one (.ptr ⟨31, 0, 1⟩ 0), dd, ai t.2.2, ai t.2.1.last, ai t.2.1.turn, dd, ast ⟨bs.toArray⟩, ai t.1, dd, dd, dd, dd, dd, dd, dd, dd, dd, dd, dd, dd, dd, dd, dd, dd, dd, dd, dd, dd, dd, dd, dd, dd, dd, dd, dd, dd, dd, dd, dd, dd, dd, dd, dd, dd, dd, dd, dd, dd, dd, dd, dd, dd, dd, dd, dd, dd, dd, dd, dd, dd, dd, dd, dd, dd, dd, dd, dd, dd, dd, dd, dd, dd, dd, dd, dd, dd, dd, dd, dd, dd, dd, dd, dd, dd, dd, dd, dd, dd, dd, dd, dd, dd, dd, dd, dd, dd, dd, dd, dd, dd, dd, dd, dd, dd, dd, dd, dd, dd, dd, dd, dd],
      [(7, { next := 2, l := [some { e := 1, var := true, fz := false, sz := 0, cells := [di c.replicas, di c.clients, di c.lease, di c.rho, di c.base, di c.cap, di c.beat, di c.wait, di c.sweep, di c.retry, di c.keep] }, none, none, none, none, none, none, none, none, none, none, none] }), (31, { next := 2, l := [some { e := 1, var := true, fz := false, sz := 0, cells := [di t.2.1.c.replicas, di t.2.1.c.clients, di t.2.1.c.lease, di t.2.1.c.rho, di t.2.1.c.base, di t.2.1.c.cap, di t.2.1.c.beat, di t.2.1.c.wait, di t.2.1.c.sweep, di t.2.1.c.retry, di t.2.1.c.keep, di t.2.1.id, di t.2.1.session, dn, di t.2.1.till, .own ⟨31, 16, 1⟩ 0 t.2.1.asks.length, db t.2.1.busy, di t.2.1.out.client, di t.2.1.out.seq, di t.2.1.out.kind, di t.2.1.out.session, dS t.2.1.out.name, di t.2.1.first, db t.2.1.sent, di t.2.1.last, di t.2.1.seq, di t.2.1.turn] }, none, none, none, none, none, none, none, none, none, none, none, none, none, none, none, some { e := 1, var := false, fz := false, sz := 3, cells := (cmsE t.2.1.asks).map C.d }, none, none, none, none, none, none, none, none, none, none, none] }), (50, ⟨2, []⟩), (14, ⟨2, []⟩), (83, ⟨2, []⟩)]⟩)
      (fun t => t.1 ≤ st.length ∧ TInv c me t.1 t.2.1 t.2.2) (fun t => st.length - t.1) (0, K0, 0) (Gh.canon [7, 31] [83] [] (by simp only [fgc_dead, fgc_dv, fgc_lent, fgc_nil, fgc_ptr, fgc_own, List.set_cons_zero, List.set_cons_succ, and_true, true_and, Int.natCast_zero, Int.cast_ofNat_Int, D.v.injEq, Value.int.injEq]; try (repeat' (first | rfl | omega | with_reducible apply And.intro))) rfl rfl) ⟨Nat.zero_le _, hinv⟩ ?_
    clear hinv k1 kl
    intro ⟨i, K, now⟩ ⟨hi0, hJ⟩ Kx hK
    simp only at hi0 hJ hK ⊢
    repeat (first | with_reducible refine SeqQ_normal _ _ ?_ | with_reducible refine And.imp_right (SeqQ_normal _ _) ?_ | with_reducible refine And.imp_right (And.imp_right (SeqQ_normal _ _)) ?_ | with_reducible refine And.imp_right (And.imp_right (And.imp_right (SeqQ_normal _ _))) ?_ | rw [awp_seq] | simp only [pkS, TyB,  implies_true, forall_const, Nat.reduceSub, Nat.reduceEqDiff, Nat.reduceAdd, Nat.reduceMul, Nat.reduceLeDiff, Nat.reduceLT, Nat.reduceBEq, reduceCtorEq])
    refine CondR_of (fun hlt => ?_) (fun hge => ?_)
    · have hi : i < st.length := by simpa using hlt
      have hat := bytes_atD hi
      have hw := i64_succ hi (by omega)
      have hd : byteI (st.getD i 0) := by
        rw [List.getD_eq_getElem?_getD, List.getElem?_eq_getElem hi]; exact hs _ (List.getElem_mem hi)
      unfold byteI at hd
      obtain ⟨n, hnn⟩ : ∃ n, n = st.getD i 0 := ⟨_, rfl⟩
      rw [← hnn] at hat hd
      obtain ⟨jb, jc, jo, jl, jn, jt⟩ := hJ
      have hst : st.length ≤ 60 := by simp at hbig; omega
      have x1 : IntKind.i64.wrap n = n := wrap64 (by omega) (by omega)
      have x2 : n.tmod 12 = n % 12 := Int.tmod_eq_emod_of_nonneg hd.1
      have x3 : IntKind.i64.wrap (n % 12) = n % 12 := wrap64 (by omega) (by omega)
      have x4 : IntKind.i64.wrap (now + n % 12) = now + n % 12 := wrap64 (by omega) (by omega)
      have x5 : IntKind.i64.wrap (now + n % 12 - K.last) = now + n % 12 - K.last := wrap64 (by omega) (by omega)
      have hrk : K.out.ok := by rw [jo]; exact ⟨by simp only [i64]; omega, by simp only [i64]; omega, by simp only [i64]; omega, by simp only [i64]; omega, by simp only; decide⟩
      have hmr : Req.may K.out = true := by
        have hH : High = 2305843009213693952 := rfl
        have h1 : mayP 1 0 .empty = true := by unfold mayP; simp
        rw [jo]
        unfold Req.may
        simp only [h1, hH, Bool.and_true, Bool.and_eq_true, decide_eq_true_eq]
        omega
      by_cases hr : now + n % 12 - K.last < c.retry
      · have hwt := wait_ok K (now + n % 12) (by omega) (by omega) jb (by rw [jc]; exact hr)
        have y1 : decide (now + n % 12 - K.last < c.retry) = true := by simpa using hr
        have y2 : ((0 : Int) != 0) = false := rfl
        repeat' (first | (with_reducible first | refine SeqQ_normal _ _ ?_ | refine CondR_tt ?_ | refine CondR_ff ?_) | rw [awp_seq] | simp only [pkS, TyB, hat, bytes_lenD, x1, x2, x3, x4, pkY, Int.reduceEq, bne_self_eq_false, Int.reduceBEq, Int.reduceBNe, implies_true, forall_const, Nat.reduceSub, Nat.reduceEqDiff, Nat.reduceAdd, Nat.reduceMul, Nat.reduceLeDiff, Nat.reduceLT, Nat.reduceBEq, reduceCtorEq] | refine CallRG_no ?_ | refine CondR_of (fun hb => ?_) (fun hb => ?_) | (refine And.intro ?_ ?_; focus ((try with_reducible refine GIm_of ?_); first | (with_reducible rfl) | ((with_reducible first | refine rng_of ?_ | refine ordOK_of ?_ | refine chk_of ?_); kernel_rfl) | (intros; omega) | (intro q p; rw [q, p]; rfl) | (intro q; rw [q]; rfl) | (intro q; simp only [Bool.and_eq_true, decide_eq_true_eq, beq_iff_eq] at q; omega) | (intros; simp_all; done) | (intros; simp [List.range, List.range.loop]; done) | (intros; simp_all [List.range, List.range.loop]; done))) | refine And.intro (fun hg => ?_) (fun hg => ?_) | (with_reducible refine chk_of ?_; kernel_rfl) | fail)
        refine CallMJ_of (mv := ?mv3) (lent := ?le3) (x := ?x3) (ass := ?ass3) ?ha3 (hwt) ?hr3 rfl ?hs3 ?hb3 ?hc3
        case ha3 => (try simp only [pkS, TyB, pkY, Int.reduceEq, bne_self_eq_false, Int.reduceBEq, Int.reduceBNe, x4, implies_true, forall_const, Nat.reduceSub, Nat.reduceEqDiff, Nat.reduceAdd, Nat.reduceMul, Nat.reduceLeDiff, Nat.reduceLT, Nat.reduceBEq, reduceCtorEq]); exact rfl
        case hr3 => simp [rosA, roA, x4]
        case hs3 => simp [argsLe, aLe, csLe, cLe, x4]
        case hb3 => (try simp only [pkS, TyB, scM, x4, implies_true, forall_const, Nat.reduceSub, Nat.reduceEqDiff, Nat.reduceAdd, Nat.reduceMul, Nat.reduceLeDiff, Nat.reduceLT, Nat.reduceBEq, reduceCtorEq]); repeat' (first | rfl | trivial | omega | with_reducible refine And.intro ?_ ?_)
        show aops _ _ _ _ _ _ _ _
        repeat' (first | (with_reducible first | refine SeqQ_normal _ _ ?_ | refine CondR_tt ?_ | refine CondR_ff ?_) | rw [awp_seq] | simp only [pkS, TyB, x5, y1, y2, pkY, Int.reduceEq, bne_self_eq_false, Int.reduceBEq, Int.reduceBNe, implies_true, forall_const, Nat.reduceSub, Nat.reduceEqDiff, Nat.reduceAdd, Nat.reduceMul, Nat.reduceLeDiff, Nat.reduceLT, Nat.reduceBEq, reduceCtorEq] | refine CallRG_no ?_ | refine CondR_of (fun hb => ?_) (fun hb => ?_) | (refine And.intro ?_ ?_; focus ((try with_reducible refine GIm_of ?_); first | (with_reducible rfl) | ((with_reducible first | refine rng_of ?_ | refine ordOK_of ?_ | refine chk_of ?_); kernel_rfl) | (intros; omega) | (intro q p; rw [q, p]; rfl) | (intro q; rw [q]; rfl) | (intro q; simp only [Bool.and_eq_true, decide_eq_true_eq, beq_iff_eq] at q; omega) | (intros; simp_all; done) | (intros; simp [List.range, List.range.loop]; done) | (intros; simp_all [List.range, List.range.loop]; done))) | refine And.intro (fun hg => ?_) (fun hg => ?_) | (with_reducible refine chk_of ?_; kernel_rfl) | fail)
        exact hK _ (i + 1, K, now + n % 12) (Gh.canon [7, 31] [] [] (by simp only [hw, fgc_dead, fgc_dv, fgc_lent, fgc_nil, fgc_ptr, fgc_own, List.set_cons_zero, List.set_cons_succ, and_true, true_and, Int.natCast_zero, Int.cast_ofNat_Int, D.v.injEq, Value.int.injEq]; try (repeat' (first | rfl | omega | with_reducible apply And.intro))) rfl rfl) ⟨hi, jb, jc, jo, by simp only; omega, by simp only; omega, jt⟩ (by simp only; omega)
      · have hag := again_ok K (now + n % 12) (by omega) (by omega) jb (by rw [jc]; exact hr) hrk hmr (by rw [jc]; omega) (by rw [jc]; exact jt)
        have y1 : decide (now + n % 12 - K.last < c.retry) = false := by simpa using hr
        have y2 : (((1 : Nat) : Int) != 1) = false := rfl
        obtain ⟨K', hK'⟩ : ∃ K', K' = againP K (now + n % 12) := ⟨_, rfl⟩
        rw [← hK'] at hag
        have e1 : K'.busy = true := by rw [hK']; exact jb
        have e2 : K'.c = c := by rw [hK']; exact jc
        have e3 : K'.out = rq me := by rw [hK']; exact jo
        have e4 : K'.last = now + n % 12 := by rw [hK']; rfl
        have e5 : K'.turn = (K.turn + 1) % c.replicas := by rw [hK', ← jc]; rfl
        have x6 : IntKind.i64.wrap (K.turn + 1) = K.turn + 1 := wrap64 (by omega) (by omega)
        have x7 : (K.turn + 1).tmod c.replicas = (K.turn + 1) % c.replicas := Int.tmod_eq_emod_of_nonneg (by omega)
        have hb1 : (K.turn + 1) % c.replicas < c.replicas := Int.emod_lt_of_pos _ (by omega)
        have hb0 : 0 ≤ (K.turn + 1) % c.replicas := Int.emod_nonneg _ r0
        have x8 : IntKind.i64.wrap ((K.turn + 1) % c.replicas) = (K.turn + 1) % c.replicas := wrap64 (by omega) (by omega)
        have y3 : (K'.turn != (K.turn + 1) % c.replicas) = false := by rw [e5]; simp
        have y4 : bytesOf (packB K'.out) = some bs := by rw [e3]; exact hbs
        repeat' (first | (with_reducible first | refine SeqQ_normal _ _ ?_ | refine CondR_tt ?_ | refine CondR_ff ?_) | rw [awp_seq] | simp only [pkS, TyB, hat, bytes_lenD, x1, x2, x3, x4, pkY, Int.reduceEq, bne_self_eq_false, Int.reduceBEq, Int.reduceBNe, implies_true, forall_const, Nat.reduceSub, Nat.reduceEqDiff, Nat.reduceAdd, Nat.reduceMul, Nat.reduceLeDiff, Nat.reduceLT, Nat.reduceBEq, reduceCtorEq] | refine CallRG_no ?_ | refine CondR_of (fun hb => ?_) (fun hb => ?_) | (refine And.intro ?_ ?_; focus ((try with_reducible refine GIm_of ?_); first | (with_reducible rfl) | ((with_reducible first | refine rng_of ?_ | refine ordOK_of ?_ | refine chk_of ?_); kernel_rfl) | (intros; omega) | (intro q p; rw [q, p]; rfl) | (intro q; rw [q]; rfl) | (intro q; simp only [Bool.and_eq_true, decide_eq_true_eq, beq_iff_eq] at q; omega) | (intros; simp_all; done) | (intros; simp [List.range, List.range.loop]; done) | (intros; simp_all [List.range, List.range.loop]; done))) | refine And.intro (fun hg => ?_) (fun hg => ?_) | (with_reducible refine chk_of ?_; kernel_rfl) | fail)
        refine CallMJ_of (mv := ?mv4) (lent := ?le4) (x := ?x4) (ass := ?ass4) ?ha4 (hag) ?hr4 rfl ?hs4 ?hb4 ?hc4
        case ha4 => (try simp only [pkS, TyB, pkY, Int.reduceEq, bne_self_eq_false, Int.reduceBEq, Int.reduceBNe, x4, implies_true, forall_const, Nat.reduceSub, Nat.reduceEqDiff, Nat.reduceAdd, Nat.reduceMul, Nat.reduceLeDiff, Nat.reduceLT, Nat.reduceBEq, reduceCtorEq]); exact rfl
        case hr4 => simp [rosA, roA, x4]
        case hs4 => simp [argsLe, aLe, csLe, cLe, x4]
        case hb4 => (try simp only [pkS, TyB, scM, x4, implies_true, forall_const, Nat.reduceSub, Nat.reduceEqDiff, Nat.reduceAdd, Nat.reduceMul, Nat.reduceLeDiff, Nat.reduceLT, Nat.reduceBEq, reduceCtorEq]); repeat' (first | rfl | trivial | omega | with_reducible refine And.intro ?_ ?_)
        show aops _ _ _ _ _ _ _ _
        repeat' (first | (with_reducible first | refine SeqQ_normal _ _ ?_ | refine CondR_tt ?_ | refine CondR_ff ?_) | rw [awp_seq] | simp only [pkS, TyB, x5, x6, x7, x8, if_neg r0, y1, y2, y3, y4, pkY, Int.reduceEq, bne_self_eq_false, Int.reduceBEq, Int.reduceBNe, implies_true, forall_const, Nat.reduceSub, Nat.reduceEqDiff, Nat.reduceAdd, Nat.reduceMul, Nat.reduceLeDiff, Nat.reduceLT, Nat.reduceBEq, reduceCtorEq] | refine CallRG_no ?_ | refine CondR_of (fun hb => ?_) (fun hb => ?_) | (refine And.intro ?_ ?_; focus ((try with_reducible refine GIm_of ?_); first | (with_reducible rfl) | ((with_reducible first | refine rng_of ?_ | refine ordOK_of ?_ | refine chk_of ?_); kernel_rfl) | (intros; omega) | (intro q p; rw [q, p]; rfl) | (intro q; rw [q]; rfl) | (intro q; simp only [Bool.and_eq_true, decide_eq_true_eq, beq_iff_eq] at q; omega) | (intros; simp_all; done) | (intros; simp [List.range, List.range.loop]; done) | (intros; simp_all [List.range, List.range.loop]; done))) | refine And.intro (fun hg => ?_) (fun hg => ?_) | (with_reducible refine chk_of ?_; kernel_rfl) | fail)
        exact hK _ (i + 1, K', now + n % 12) (Gh.canon [7, 31] [] [] (by simp only [hw, e4, e5, fgc_dead, fgc_dv, fgc_lent, fgc_nil, fgc_ptr, fgc_own, List.set_cons_zero, List.set_cons_succ, and_true, true_and, Int.natCast_zero, Int.cast_ofNat_Int, D.v.injEq, Value.int.injEq]; try (repeat' (first | rfl | omega | with_reducible apply And.intro))) rfl rfl) ⟨hi, e1, e2, e3, by simp only; omega, by simp only; omega, by simp only; rw [e5]; exact ⟨hb0, hb1⟩⟩ (by simp only; omega)
    · repeat' (first | (with_reducible first | refine SeqQ_normal _ _ ?_ | refine CondR_tt ?_ | refine CondR_ff ?_) | rw [awp_seq] | simp only [pkS, TyB, pkY, Int.reduceEq, bne_self_eq_false, Int.reduceBEq, Int.reduceBNe, implies_true, forall_const, Nat.reduceSub, Nat.reduceEqDiff, Nat.reduceAdd, Nat.reduceMul, Nat.reduceLeDiff, Nat.reduceLT, Nat.reduceBEq, reduceCtorEq] | ((try refine CallRG_tt ?_); apply CallR_of; (solve | exact (hawake) | (refine CallOK.le (hawake) ?_; simp [argsLe, aLe, csLe, cLe]))) | (apply CallRG_of; (focus (intro _; (solve | exact (hawake) | (refine CallOK.le (hawake) ?_; simp [argsLe, aLe, csLe, cLe])))); (focus rfl)) | refine CallRG_no ?_ | refine CondR_of (fun hb => ?_) (fun hb => ?_) | (refine And.intro ?_ ?_; focus ((try with_reducible refine GIm_of ?_); first | (with_reducible rfl) | ((with_reducible first | refine rng_of ?_ | refine ordOK_of ?_ | refine chk_of ?_); kernel_rfl) | (intros; omega) | (intro q p; rw [q, p]; rfl) | (intro q; rw [q]; rfl) | (intro q; simp only [Bool.and_eq_true, decide_eq_true_eq, beq_iff_eq] at q; omega) | (intros; simp_all; done) | (intros; simp [List.range, List.range.loop]; done) | (intros; simp_all [List.range, List.range.loop]; done))) | refine And.intro (fun hg => ?_) (fun hg => ?_) | (with_reducible refine chk_of ?_; kernel_rfl) | fail)
  · repeat' (first | (with_reducible first | refine SeqQ_normal _ _ ?_ | refine CondR_tt ?_ | refine CondR_ff ?_) | rw [awp_seq] | simp only [pkS, TyB, hbig, pkY, Int.reduceEq, bne_self_eq_false, Int.reduceBEq, Int.reduceBNe, implies_true, forall_const, Nat.reduceSub, Nat.reduceEqDiff, Nat.reduceAdd, Nat.reduceMul, Nat.reduceLeDiff, Nat.reduceLT, Nat.reduceBEq, reduceCtorEq] | ((try refine CallRG_tt ?_); apply CallR_of; (solve | exact (hawake) | (refine CallOK.le (hawake) ?_; simp [argsLe, aLe, csLe, cLe]))) | (apply CallRG_of; (focus (intro _; (solve | exact (hawake) | (refine CallOK.le (hawake) ?_; simp [argsLe, aLe, csLe, cLe])))); (focus rfl)) | refine CallRG_no ?_ | refine CondR_of (fun hb => ?_) (fun hb => ?_) | (refine And.intro ?_ ?_; focus ((try with_reducible refine GIm_of ?_); first | (with_reducible rfl) | ((with_reducible first | refine rng_of ?_ | refine ordOK_of ?_ | refine chk_of ?_); kernel_rfl) | (intros; omega) | (intro q p; rw [q, p]; rfl) | (intro q; rw [q]; rfl) | (intro q; simp only [Bool.and_eq_true, decide_eq_true_eq, beq_iff_eq] at q; omega) | (intros; simp_all; done) | (intros; simp [List.range, List.range.loop]; done) | (intros; simp_all [List.range, List.range.loop]; done))) | refine And.intro (fun hg => ?_) (fun hg => ?_) | (with_reducible refine chk_of ?_; kernel_rfl) | fail)
end Go.Proofs.Ytiegkabcgokhkaa

