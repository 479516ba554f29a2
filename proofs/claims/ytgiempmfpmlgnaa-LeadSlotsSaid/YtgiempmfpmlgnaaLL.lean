/- LeadSlots. -/
import Derived.Test.YtgiempmfpmlgnaaLJ
import Derived.Test.YtgiempmfpmlgnaaLJK
import Derived.Test.YtgiempmfpmlgnaaK7
namespace Go.Proofs.Ytgiempmfpmlgnaa
open Go.Pk
set_option maxRecDepth 100000
set_option linter.unusedSimpArgs false
set_option linter.unusedVariables false
theorem drop_mor' {α : Type} {l : List α} {n : Nat} {r : List α} (k : Nat) (h : l.drop n = r) : l.drop (n + k) = r.drop k := by rw [← h, List.drop_drop]
structure SInv (v : Int) (X : Plan) (i : Nat) (L : LeadS) (want : List Batch) : Prop where
  ph : L.phase = 2
  vw : L.view = v
  sl : L.slots = voteOf v (X.done + 1) 0 want
  nx : L.next = X.done + 1 + want.length
  wn : want.length ≤ 9 + i
  wr : ∀ b ∈ want, b.reqs.length ≤ 3
  tv : 0 ≤ L.tip.view ∧ L.tip.view ≤ 1000
  ts : 0 ≤ L.tip.slot ∧ L.tip.slot ≤ 2000
  tm : 0 ≤ L.time ∧ L.time ≤ 255 + 12 * i
  hl : L.heard.length ≤ 7
theorem add_new {v : Int} {X : Plan} {i : Nat} {L : LeadS} {want : List Batch} (hv : u8 v) (hXd : 0 ≤ X.done ∧ X.done ≤ 7) (h : SInv v X i L want) (hi : i < 12) {d : Int} (hd : 0 ≤ d ∧ d ≤ 100) {rs : List Req} (hm : Batch.may ⟨false, 0, ⟨0, 0⟩, 0, rs⟩ = true) (h3 : rs.length ≤ 3) :
    (decide (L.next > d + 3) = true → addP L d (L.time + i) rs = (L, 0, 5)) ∧ (decide (L.next > d + 3) = false →
      ∃ L', addP L d (L.time + i) rs = (L', L.next, 0) ∧ L'.next = L.next + 1 ∧ L'.tip = ⟨v, L.next⟩ ∧ L'.time = L.time + i ∧ SInv v X (i + 1) L' (want ++ [⟨false, v, L.tip, L.time + i, rs⟩])) := by
  have hma : mayAdd d (L.time + i) rs = true := by
    unfold mayAdd
    have := h.tm
    have hH : High = 2305843009213693952 := rfl
    rw [hm]; simp [hH]; omega
  have hnx := h.nx
  have hwn := h.wn
  have hH : High = 2305843009213693952 := rfl
  refine ⟨fun hf => ?_, fun hf => ?_⟩
  · rw [addP, if_neg (by rw [h.ph]; simp), if_neg (by rw [hma]; simp), if_pos (by rw [hf]; rfl)]
  · have ht := h.tm
    refine ⟨{ L with slots := L.slots ++ [⟨L.next, L.view, ⟨false, L.view, L.tip, L.time + i, rs⟩⟩], tip := ⟨L.view, L.next⟩, time := max L.time (L.time + i), next := L.next + 1 }, ?_, rfl, by simp only [h.vw], by simp only; omega, h.ph, h.vw, ?_, ?_, ?_, ?_, ?_, ?_, ?_, h.hl⟩
    · rw [addP, if_neg (by rw [h.ph]; simp), if_neg (by rw [hma]; simp), if_neg (by rw [hf, hH]; simp; omega)]
    · simp only
      rw [h.sl, h.vw, voteOf_app, hnx]
      simp
    · simp only [List.length_append, List.length_singleton]; omega
    · simp only [List.length_append, List.length_singleton]; omega
    · intro b hb
      rcases List.mem_append.1 hb with hb | hb
      · exact h.wr b hb
      · rw [List.mem_singleton] at hb; subst hb; exact h3
    · simp only [h.vw]; have := hv.1; have := hv.2; omega
    · simp only; omega
    · simp only; omega
theorem lreqsP_ok {ns : List Int} (hu : ∀ x ∈ ns, u8 x) : ∀ r ∈ lreqsP ns, r.ok := by
  have key : ∀ k : Nat, ∀ r ∈ lreqs ns k, r.ok := by
    intro k
    induction k with
    | zero => simp [lreqs]
    | succ k ih =>
      intro r hr
      rcases List.mem_append.1 hr with hr | hr
      · exact ih r hr
      · rw [List.mem_singleton] at hr; subst hr; exact reqP_ok (u8_getD hu k)
  exact key _
theorem mayB_full {rs : List Req} {v t : Int} {tip : Tip} (h : Batch.may ⟨false, 0, ⟨0, 0⟩, 0, rs⟩ = true) (hv : 0 ≤ v ∧ v < 2000) (h1 : 0 ≤ tip.view ∧ tip.view < 3000) (h2 : 0 ≤ tip.slot ∧ tip.slot < 3000) (ht : 0 ≤ t ∧ t < 3000) : Batch.may ⟨false, v, tip, t, rs⟩ = true := by
  have bs : ∀ {n : Int}, 0 ≤ n → n < 3000 → bad n = false := by
    intro n h h2
    unfold bad
    simp only [Bool.or_eq_false_iff, decide_eq_false_iff_not, High]
    omega
  have h3 := batchMay_few h
  simp only at h3
  unfold Batch.may at h ⊢
  simp only [Bool.false_eq_true, if_false] at h ⊢
  rw [if_neg] at h
  · rw [if_neg]
    · exact h
    · intro hc
      simp only [List.any_cons, List.any_nil, bs hv.1 (by omega), bs h1.1 h1.2, bs h2.1 h2.2, bs ht.1 ht.2] at hc
      simp at hc
      omega
  · intro hc
    rw [if_pos hc] at h
    cases h
set_option maxHeartbeats 8000000 in
theorem leadSlots_of (v : Int) (a b : NTold) (reqs : List (List Int)) (dn : Int) (hv : u8 v) (ha : a.ok) (hb : b.ok) (hrl : reqs.length < 2 ^ 60) (hrq : ∀ x ∈ reqs, x.length < 2 ^ 60 ∧ ∀ y ∈ x, u8 y) (hdn : u8 dn) :
    CallOK Try.prog 3 [.f (ru v), .f (.agg (a.enc.map C.d)), .f (.agg (b.enc.map C.d)), .f (al reqs.length (nssE reqs)), .f (ru dn)] (fun r o => r = [rb true] ∧ o = []) := by
  refine callOK_of TOKTy mixed (T := Ty) (n := 219) Try.func3 (c := Try.f3.body.getD .skip) rfl Try.results3 Try.ntmps3 Try.call3 ?_
  simp only [Try.f3, Option.getD]
  have hled := led_ok v a b hv ha hb
  have hXd := makeP_done [promB 0 a, promB 2 b]
  have hXb := led_bd ha hb _ rfl
  obtain ⟨L0, hL0⟩ : ∃ L0, L0 = ledP v (promB 0 a) (promB 2 b) := ⟨_, rfl⟩
  have hS0 : SInv v (makeP [promB 0 a, promB 2 b]).1 0 L0 (makeP [promB 0 a, promB 2 b]).1.batches := by
    rw [hL0]
    exact ⟨rfl, rfl, rfl, rfl, hXd.2.1, hXd.2.2, hXb.2.1, hXb.2.2.1, ⟨hXb.2.2.2.1, by have := hXb.2.2.2.2; simp only [ledP]; omega⟩, by simp [ledP]⟩
  have hLt : L0.tip = (makeP [promB 0 a, promB 2 b]).1.after ∧ L0.time = (makeP [promB 0 a, promB 2 b]).1.later := by rw [hL0]; exact ⟨rfl, rfl⟩
  obtain ⟨X, hX⟩ : ∃ X, X = (makeP [promB 0 a, promB 2 b]).1 := ⟨_, rfl⟩
  rw [← hX, ← hL0] at hled
  rw [← hX] at hXd hXb hS0 hLt
  have hd12 : dn.tmod 12 = ((dn.toNat % 12 : Nat) : Int) := tmod_nat hdn (by decide)
  obtain ⟨o, ho⟩ : ∃ o, o = dn.toNat % 12 := ⟨_, rfl⟩
  have ho12 : o < 12 := by rw [ho]; exact Nat.mod_lt _ (by decide)
  rw [← ho] at hd12
  have hwd := u8w hdn
  have hwv := u8w hv
  have hw1 : IntKind.i64.wrap (X.done + (o : Int)) = X.done + (o : Int) := wrap64 (by omega) (by omega)
  repeat' (first | with_reducible refine SeqQ_normal _ _ ?_ | rw [awp_seq] | simp only [pkS, TyB, Nat.reduceSub, Plan.rf, hwd, hd12, hw1, batches_len, pkY, Int.reduceEq, bne_self_eq_false, Int.reduceBEq, Int.reduceBNe, if_true, if_false, implies_true, Nat.reduceEqDiff, Nat.reduceAdd, Nat.reduceMul, Nat.reduceLeDiff, Nat.reduceLT, Nat.reduceBEq, beq_self_eq_true, reduceCtorEq, imp_self, ne_eq, not_false_eq_true, beq_iff_eq, forall_const, true_implies] | refine CallP_of (hled) ?_ | (refine CallP_of (CallP.le (hled) ?_) ?_; focus (simp [argsLe, aLe, csLe, cLe] <;> fail)) | with_reducible refine CondR_tt ?_ | with_reducible refine CondR_ff ?_ | refine CallRG_no ?_ | refine CondR_of (fun hb => ?_) (fun hb => ?_) | (refine And.intro ?_ ?_; focus ((try with_reducible refine GIm_of ?_); first | (with_reducible rfl) | (with_reducible refine rng_of ?_; rfl) | (with_reducible refine ordOK_of ?_; kernel_rfl) | (with_reducible refine chk_of ?_; kernel_rfl) | (intros; omega) | (intro q1 q2; rw [q1, q2]; rfl) | (intro q1; rw [q1]; rfl) | (intro q; simp only [Bool.and_eq_true, decide_eq_true_eq, beq_iff_eq] at q; omega) | (intros; simp_all; done) | (intros; simp [List.range, List.range.loop]; done) | (intros; simp_all [List.range, List.range.loop]; done))) | refine And.intro (fun hg => ?_) (fun hg => ?_) | (with_reducible refine chk_of ?_; kernel_rfl) | fail)
  refine LoopR_ix Ty Try.prog (τ := Nat × LeadS × List Batch) (fun x => ⟨[ru v, dd, dd, al reqs.length (nssE reqs), dd, dd, dd, dd, dd, dd, dd, .one (.ptr ⟨32, 0, 1⟩ 0), .one (.ptr ⟨12, 0, 1⟩ 0), ai (X.done + (o : Int)), .one (.ptr ⟨14, 0, 1⟩ 0), ai x.2.1.time, .one (.own ⟨16, 1, 1⟩ 0 x.2.2.length), ai x.1, dd, dd, dd, dd, dd, dd, dd, dd, dd, dd, dd, dd, dd, dd, dd, dd, dd, dd, dd, dd, dd, dd, dd, dd, dd, dd, dd, dd, dd, dd, dd, dd, dd, dd, dd, dd, dd, dd, dd, dd, dd, dd, dd, dd, dd, dd, dd, dd, dd, dd, dd, dd, dd, dd, dd, dd, dd, dd, dd, dd, dd, dd, dd, dd, dd, dd, dd, dd, dd, dd, dd, dd, dd, dd, dd, dd, dd, dd, dd, dd, dd, dd, dd, dd, dd, dd, dd, dd, dd, dd, dd, dd, dd, dd, dd, dd, dd, dd, dd, dd, dd, dd, dd, dd, dd, dd, dd, dd, dd, dd, dd, dd, dd, dd, dd, dd, dd, dd, dd, dd, dd, dd, dd, dd, dd, dd, dd, dd, dd, dd, dd, dd, dd, dd, dd, dd, dd, dd, dd, dd, dd, dd, dd, dd, dd, dd, dd, dd, dd, dd, dd, dd, dd, dd, dd, dd, dd, dd, dd, dd, dd, dd, dd, dd, dd, dd, dd, dd, dd, dd, dd, dd, dd, dd, dd, dd, dd, dd, dd, dd, dd, dd, dd, dd, dd, dd, dd, dd, dd, dd, dd, dd, dd, dd, dd, dd, dd, dd, dd, dd, dd],
      [(6, ⟨2, []⟩), (7, ⟨2, []⟩), (32, { next := 2, l := [some { e := 1, var := true, fz := false, sz := 0, cells := [di x.2.1.n, di x.2.1.phase, di x.2.1.view, .own ⟨32, 4, 1⟩ 0 x.2.1.heard.length, .own ⟨32, 5, 1⟩ 0 x.2.1.slots.length, di x.2.1.next, di x.2.1.tip.view, di x.2.1.tip.slot, di x.2.1.time] }, none, none, none, some { e := 1, var := false, fz := false, sz := 6, cells := (promisesE x.2.1.heard).map C.d }, some { e := 1, var := false, fz := false, sz := 8, cells := (votesE x.2.1.slots).map C.d }, none, none, none, none] }), (1000032, ⟨2, []⟩), (12, { next := 2, l := [some { e := 1, var := true, fz := false, sz := 0, cells := [di X.done, di X.tip.view, di X.tip.slot, di X.time, .own ⟨12, 5, 1⟩ 0 X.batches.length, di X.after.view, di X.after.slot, di X.later] }, none, none, none, none, some { e := 1, var := false, fz := false, sz := 6, cells := (batchesE X.batches).map C.d }, none, none, none] }), (14, { next := 2, l := [some { e := 1, var := true, fz := false, sz := 0, cells := [di x.2.1.tip.view, di x.2.1.tip.slot] }, none, none] }), (50, ⟨2, []⟩), (16, { next := 2, l := [none, some { e := 1, var := false, fz := false, sz := 6, cells := (batchesE x.2.2).map C.d }] }), (21, ⟨2, []⟩), (73, ⟨2, []⟩), (113, ⟨2, []⟩), (126, ⟨2, []⟩), (127, ⟨2, []⟩)]⟩)
    (fun x => x.1 ≤ reqs.length ∧ x.1 ≤ 12 ∧ SInv v X x.1 x.2.1 x.2.2) (fun x => reqs.length - x.1) (0, L0, X.batches)
    (Gh.canon [32, 12, 14, 16] [21, 73, 113, 126, 127] [] (by simp only [hLt.1, hLt.2, fgc_dead, fgc_dv, fgc_lent, fgc_nil, fgc_ptr, fgc_own, List.set_cons_zero, List.set_cons_succ, and_true, true_and, Int.natCast_zero, Int.cast_ofNat_Int, D.v.injEq, Value.int.injEq]; try (repeat' (first | rfl | omega | with_reducible apply And.intro))) rfl (by simp only [hLt.1]; rfl)) ⟨Nat.zero_le _, Nat.zero_le _, hS0⟩ ?_
  clear hled hS0 hLt hL0 hd12
  intro ⟨i, L, want⟩ ⟨hi0, hi12, hL⟩ K hK
  simp only at hi0 hi12 hL hK ⊢
  have htm := hL.tm
  have hwn := hL.wn
  have hnx := hL.nx
  repeat (first | with_reducible refine SeqQ_normal _ _ ?_ | with_reducible refine And.imp_right (SeqQ_normal _ _) ?_ | with_reducible refine And.imp_right (And.imp_right (SeqQ_normal _ _)) ?_ | with_reducible refine And.imp_right (And.imp_right (And.imp_right (SeqQ_normal _ _))) ?_ | rw [awp_seq] | simp only [pkS, TyB, Nat.reduceSub,  if_true, if_false, implies_true, Nat.reduceEqDiff, Nat.reduceAdd, Nat.reduceMul, Nat.reduceLeDiff, Nat.reduceLT, Nat.reduceBEq, beq_self_eq_true, reduceCtorEq, imp_self, ne_eq, not_false_eq_true, beq_iff_eq, forall_const, true_implies])
  refine CondR_of (fun hlt => ?_) (fun hge => ?_)
  · simp only [Bool.and_eq_true, decide_eq_true_eq] at hlt
    have hi : i < reqs.length := by omega
    have hi2 : i < 12 := by omega
    have hat := nss_at hi
    rw [Nat.mul_one] at hat
    obtain ⟨ns, hns⟩ : ∃ ns, ns = reqs[i] := ⟨_, rfl⟩
    have hrn := hrq _ (List.getElem_mem hi)
    rw [← hns] at hat hrn
    have hw := i64_succ hi (by omega)
    have hwt : IntKind.i64.wrap (L.time + (i : Int)) = L.time + (i : Int) := wrap64 (by omega) (by omega)
    have hwx : IntKind.i64.wrap (L.next + 1) = L.next + 1 := wrap64 (by omega) (by omega)
    have hw3 : IntKind.i64.wrap (X.done + (o : Int) + 3) = X.done + (o : Int) + 3 := wrap64 (by omega) (by omega)
    have hlq := lreqs_ok ns hrn.1 hrn.2
    have hlm := lreqsP_may hrn.2
    have hl3 : (lreqsP ns).length ≤ 3 := by rw [lreqsP, lreqs_len]; omega
    have hlo : ∀ r ∈ lreqsP ns, r.ok := lreqsP_ok hrn.2
    obtain ⟨rs, hrs⟩ : ∃ rs, rs = lreqsP ns := ⟨_, rfl⟩
    rw [← hrs] at hlq hlm hl3 hlo
    have hadd := add_ok L (X.done + (o : Int)) (L.time + i) rs (by rw [hL.sl, voteOf_len]; omega) (by omega) (by omega) hlo
    obtain ⟨hA1, hA2⟩ := add_new hv hXb.1 hL hi2 (d := X.done + (o : Int)) (by omega) hlm hl3
    have hnxt := next_ok L
    have hnl : (nssE reqs).length = reqs.length := by rw [nss_len, Nat.mul_one]
    cases hful : decide (L.next > X.done + (o : Int) + 3)
    · obtain ⟨L', e1, e2, e3, e4, e5⟩ := hA2 hful
      rw [e1] at hadd
      have hnxt' := next_ok L'
      obtain ⟨x, hx⟩ : ∃ x : Batch, x = ⟨false, v, L.tip, L.time + i, rs⟩ := ⟨_, rfl⟩
      have hxm : Batch.may x = true := by
        rw [hx]
        exact mayB_full hlm (by have := hv.1; have := hv.2; omega) (by have := hL.tv; omega) (by have := hL.ts; omega) (by omega)
      have hxo : x.ok := by
        rw [hx]
        refine ⟨?_, ?_, ?_, ?_, ?_, hlo⟩
        · have := hv.1; have := hv.2; simp only [i64]; omega
        · have := hL.tv; simp only [i64]; omega
        · have := hL.ts; simp only [i64]; omega
        · simp only [i64]; omega
        · simp only; omega
      have hbm := batchMay_ok x hxo
      rw [hxm] at hbm
      have hvl := valid_ok L.tip x
      rw [show (!x.fill && (x.tip.view == L.tip.view && x.tip.slot == L.tip.slot)) = true by rw [hx]; simp] at hvl
      rw [hx] at hbm hvl
      have hnn : (L.next != L.next) = false := by simp
      have hnn1 : (L'.next != L.next + 1) = false := by rw [e2]; simp
      repeat' (first | with_reducible refine SeqQ_normal _ _ ?_ | rw [awp_seq] | simp only [pkS, TyB, Nat.reduceSub, hwt, hat, hnl, pkY, Int.reduceEq, bne_self_eq_false, Int.reduceBEq, Int.reduceBNe, if_true, if_false, implies_true, Nat.reduceEqDiff, Nat.reduceAdd, Nat.reduceMul, Nat.reduceLeDiff, Nat.reduceLT, Nat.reduceBEq, beq_self_eq_true, reduceCtorEq, imp_self, ne_eq, not_false_eq_true, beq_iff_eq, forall_const, true_implies] | refine CallR_of (hnxt) ?_ | refine CallR_of (hlq) ?_ | (refine CallR_of (CallOK.le (hnxt) ?_) ?_; focus (simp [argsLe, aLe, csLe, cLe] <;> fail)) | (refine CallR_of (CallOK.le (hlq) ?_) ?_; focus (simp [argsLe, aLe, csLe, cLe] <;> fail)) | refine CallRG_of (fun hg => hnxt) rfl ?_ | refine CallRG_of (fun hg => hlq) rfl ?_ | (refine CallRG_of (fun hg => CallOK.le (hnxt) ?_) rfl ?_; focus (simp [argsLe, aLe, csLe, cLe] <;> fail)) | (refine CallRG_of (fun hg => CallOK.le (hlq) ?_) rfl ?_; focus (simp [argsLe, aLe, csLe, cLe] <;> fail)) | (refine CallRG_tt ?_; refine CallR_of (hnxt) ?_) | (refine CallRG_tt ?_; refine CallR_of (hlq) ?_) | (refine CallRG_tt ?_; refine CallR_of (CallOK.le (hnxt) ?_) ?_; focus (simp [argsLe, aLe, csLe, cLe] <;> fail)) | (refine CallRG_tt ?_; refine CallR_of (CallOK.le (hlq) ?_) ?_; focus (simp [argsLe, aLe, csLe, cLe] <;> fail)) | with_reducible refine CondR_tt ?_ | with_reducible refine CondR_ff ?_ | refine CallRG_no ?_ | refine CondR_of (fun hb => ?_) (fun hb => ?_) | (refine And.intro ?_ ?_; focus ((try with_reducible refine GIm_of ?_); first | (with_reducible rfl) | (with_reducible refine rng_of ?_; rfl) | (with_reducible refine ordOK_of ?_; kernel_rfl) | (with_reducible refine chk_of ?_; kernel_rfl) | (intros; omega) | (intro q1 q2; rw [q1, q2]; rfl) | (intro q1; rw [q1]; rfl) | (intro q; simp only [Bool.and_eq_true, decide_eq_true_eq, beq_iff_eq] at q; omega) | (intros; simp_all; done) | (intros; simp [List.range, List.range.loop]; done) | (intros; simp_all [List.range, List.range.loop]; done))) | refine And.intro (fun hg => ?_) (fun hg => ?_) | (with_reducible refine chk_of ?_; kernel_rfl) | fail)
      refine CallMJ_of (mv := ?mv1) (lent := ?le1) (x := ?x1) (ass := ?ass1) ?ha1 (hadd) ?hr1 rfl ?hs1 ?hb1 ?hc1
      case ha1 => (try simp only [pkS, TyB, Nat.reduceSub, pkY, Int.reduceEq, bne_self_eq_false, Int.reduceBEq, Int.reduceBNe, hwt, if_true, if_false, implies_true, Nat.reduceEqDiff, Nat.reduceAdd, Nat.reduceMul, Nat.reduceLeDiff, Nat.reduceLT, Nat.reduceBEq, beq_self_eq_true, reduceCtorEq, imp_self, ne_eq, not_false_eq_true, beq_iff_eq, forall_const, true_implies]); exact rfl
      case hr1 => simp [rosA, roA, hwt]
      case hs1 => simp [argsLe, aLe, csLe, cLe, hwt]
      case hb1 => (try simp only [pkS, TyB, Nat.reduceSub, scM, hwt, if_true, if_false, implies_true, Nat.reduceEqDiff, Nat.reduceAdd, Nat.reduceMul, Nat.reduceLeDiff, Nat.reduceLT, Nat.reduceBEq, beq_self_eq_true, reduceCtorEq, imp_self, ne_eq, not_false_eq_true, beq_iff_eq, forall_const, true_implies]); repeat' (first | rfl | trivial | omega | with_reducible refine And.intro ?_ ?_)
      show aops _ _ _ _ _ _ _ _
      repeat' (first | with_reducible refine SeqQ_normal _ _ ?_ | rw [awp_seq] | simp only [pkS, TyB, Nat.reduceSub, hful, hwx, hwt, hw3, hat, hnl, hwv, hnn, hnn1, pkY, Int.reduceEq, bne_self_eq_false, Int.reduceBEq, Int.reduceBNe, if_true, if_false, implies_true, Nat.reduceEqDiff, Nat.reduceAdd, Nat.reduceMul, Nat.reduceLeDiff, Nat.reduceLT, Nat.reduceBEq, beq_self_eq_true, reduceCtorEq, imp_self, ne_eq, not_false_eq_true, beq_iff_eq, forall_const, true_implies] | refine CallR_of (hnxt') ?_ | refine CallR_of (hlq) ?_ | refine CallR_of (hbm) ?_ | refine CallR_of (hvl) ?_ | (refine CallR_of (CallOK.le (hnxt') ?_) ?_; focus (simp [argsLe, aLe, csLe, cLe] <;> fail)) | (refine CallR_of (CallOK.le (hlq) ?_) ?_; focus (simp [argsLe, aLe, csLe, cLe] <;> fail)) | (refine CallR_of (CallOK.le (hbm) ?_) ?_; focus (simp [argsLe, aLe, csLe, cLe] <;> fail)) | (refine CallR_of (CallOK.le (hvl) ?_) ?_; focus (simp [argsLe, aLe, csLe, cLe] <;> fail)) | refine CallRG_of (fun hg => hnxt') rfl ?_ | refine CallRG_of (fun hg => hlq) rfl ?_ | refine CallRG_of (fun hg => hbm) rfl ?_ | refine CallRG_of (fun hg => hvl) rfl ?_ | (refine CallRG_of (fun hg => CallOK.le (hnxt') ?_) rfl ?_; focus (simp [argsLe, aLe, csLe, cLe] <;> fail)) | (refine CallRG_of (fun hg => CallOK.le (hlq) ?_) rfl ?_; focus (simp [argsLe, aLe, csLe, cLe] <;> fail)) | (refine CallRG_of (fun hg => CallOK.le (hbm) ?_) rfl ?_; focus (simp [argsLe, aLe, csLe, cLe] <;> fail)) | (refine CallRG_of (fun hg => CallOK.le (hvl) ?_) rfl ?_; focus (simp [argsLe, aLe, csLe, cLe] <;> fail)) | (refine CallRG_tt ?_; refine CallR_of (hnxt') ?_) | (refine CallRG_tt ?_; refine CallR_of (hlq) ?_) | (refine CallRG_tt ?_; refine CallR_of (hbm) ?_) | (refine CallRG_tt ?_; refine CallR_of (hvl) ?_) | (refine CallRG_tt ?_; refine CallR_of (CallOK.le (hnxt') ?_) ?_; focus (simp [argsLe, aLe, csLe, cLe] <;> fail)) | (refine CallRG_tt ?_; refine CallR_of (CallOK.le (hlq) ?_) ?_; focus (simp [argsLe, aLe, csLe, cLe] <;> fail)) | (refine CallRG_tt ?_; refine CallR_of (CallOK.le (hbm) ?_) ?_; focus (simp [argsLe, aLe, csLe, cLe] <;> fail)) | (refine CallRG_tt ?_; refine CallR_of (CallOK.le (hvl) ?_) ?_; focus (simp [argsLe, aLe, csLe, cLe] <;> fail)) | with_reducible refine CondR_tt ?_ | with_reducible refine CondR_ff ?_ | refine CallRG_no ?_ | refine CondR_of (fun hb => ?_) (fun hb => ?_) | (refine And.intro ?_ ?_; focus ((try with_reducible refine GIm_of ?_); first | (with_reducible rfl) | (with_reducible refine rng_of ?_; rfl) | (with_reducible refine ordOK_of ?_; kernel_rfl) | (with_reducible refine chk_of ?_; kernel_rfl) | (intros; omega) | (intro q1 q2; rw [q1, q2]; rfl) | (intro q1; rw [q1]; rfl) | (intro q; simp only [Bool.and_eq_true, decide_eq_true_eq, beq_iff_eq] at q; omega) | (intros; simp_all; done) | (intros; simp [List.range, List.range.loop]; done) | (intros; simp_all [List.range, List.range.loop]; done))) | refine And.intro (fun hg => ?_) (fun hg => ?_) | (with_reducible refine chk_of ?_; kernel_rfl) | fail)
      exact hK _ (i + 1, L', want ++ [⟨false, v, L.tip, L.time + i, rs⟩]) (Gh.canon [32, 12, 14, 16] [] [] (by simp only [hw, e4, List.length_append, List.length_singleton, fgc_dead, fgc_dv, fgc_lent, fgc_nil, fgc_ptr, fgc_own, List.set_cons_zero, List.set_cons_succ, and_true, true_and, Int.natCast_zero, Int.cast_ofNat_Int, D.v.injEq, Value.int.injEq]; try (repeat' (first | rfl | omega | with_reducible apply And.intro))) rfl (by simp only [e3, List.length_append, List.length_singleton, batchesE_snoc]; rfl)) ⟨hi, hi2, e5⟩ (by simp only; omega)
    · rw [hA1 hful] at hadd
      have hnn : (L.next != L.next) = false := by simp
      repeat' (first | with_reducible refine SeqQ_normal _ _ ?_ | rw [awp_seq] | simp only [pkS, TyB, Nat.reduceSub, hwt, hat, hnl, pkY, Int.reduceEq, bne_self_eq_false, Int.reduceBEq, Int.reduceBNe, if_true, if_false, implies_true, Nat.reduceEqDiff, Nat.reduceAdd, Nat.reduceMul, Nat.reduceLeDiff, Nat.reduceLT, Nat.reduceBEq, beq_self_eq_true, reduceCtorEq, imp_self, ne_eq, not_false_eq_true, beq_iff_eq, forall_const, true_implies] | refine CallR_of (hnxt) ?_ | refine CallR_of (hlq) ?_ | (refine CallR_of (CallOK.le (hnxt) ?_) ?_; focus (simp [argsLe, aLe, csLe, cLe] <;> fail)) | (refine CallR_of (CallOK.le (hlq) ?_) ?_; focus (simp [argsLe, aLe, csLe, cLe] <;> fail)) | refine CallRG_of (fun hg => hnxt) rfl ?_ | refine CallRG_of (fun hg => hlq) rfl ?_ | (refine CallRG_of (fun hg => CallOK.le (hnxt) ?_) rfl ?_; focus (simp [argsLe, aLe, csLe, cLe] <;> fail)) | (refine CallRG_of (fun hg => CallOK.le (hlq) ?_) rfl ?_; focus (simp [argsLe, aLe, csLe, cLe] <;> fail)) | (refine CallRG_tt ?_; refine CallR_of (hnxt) ?_) | (refine CallRG_tt ?_; refine CallR_of (hlq) ?_) | (refine CallRG_tt ?_; refine CallR_of (CallOK.le (hnxt) ?_) ?_; focus (simp [argsLe, aLe, csLe, cLe] <;> fail)) | (refine CallRG_tt ?_; refine CallR_of (CallOK.le (hlq) ?_) ?_; focus (simp [argsLe, aLe, csLe, cLe] <;> fail)) | with_reducible refine CondR_tt ?_ | with_reducible refine CondR_ff ?_ | refine CallRG_no ?_ | refine CondR_of (fun hb => ?_) (fun hb => ?_) | (refine And.intro ?_ ?_; focus ((try with_reducible refine GIm_of ?_); first | (with_reducible rfl) | (with_reducible refine rng_of ?_; rfl) | (with_reducible refine ordOK_of ?_; kernel_rfl) | (with_reducible refine chk_of ?_; kernel_rfl) | (intros; omega) | (intro q1 q2; rw [q1, q2]; rfl) | (intro q1; rw [q1]; rfl) | (intro q; simp only [Bool.and_eq_true, decide_eq_true_eq, beq_iff_eq] at q; omega) | (intros; simp_all; done) | (intros; simp [List.range, List.range.loop]; done) | (intros; simp_all [List.range, List.range.loop]; done))) | refine And.intro (fun hg => ?_) (fun hg => ?_) | (with_reducible refine chk_of ?_; kernel_rfl) | fail)
      refine CallMJ_of (mv := ?mv2) (lent := ?le2) (x := ?x2) (ass := ?ass2) ?ha2 (hadd) ?hr2 rfl ?hs2 ?hb2 ?hc2
      case ha2 => (try simp only [pkS, TyB, Nat.reduceSub, pkY, Int.reduceEq, bne_self_eq_false, Int.reduceBEq, Int.reduceBNe, hwt, if_true, if_false, implies_true, Nat.reduceEqDiff, Nat.reduceAdd, Nat.reduceMul, Nat.reduceLeDiff, Nat.reduceLT, Nat.reduceBEq, beq_self_eq_true, reduceCtorEq, imp_self, ne_eq, not_false_eq_true, beq_iff_eq, forall_const, true_implies]); exact rfl
      case hr2 => simp [rosA, roA, hwt]
      case hs2 => simp [argsLe, aLe, csLe, cLe, hwt]
      case hb2 => (try simp only [pkS, TyB, Nat.reduceSub, scM, hwt, if_true, if_false, implies_true, Nat.reduceEqDiff, Nat.reduceAdd, Nat.reduceMul, Nat.reduceLeDiff, Nat.reduceLT, Nat.reduceBEq, beq_self_eq_true, reduceCtorEq, imp_self, ne_eq, not_false_eq_true, beq_iff_eq, forall_const, true_implies]); repeat' (first | rfl | trivial | omega | with_reducible refine And.intro ?_ ?_)
      show aops _ _ _ _ _ _ _ _
      repeat' (first | with_reducible refine SeqQ_normal _ _ ?_ | rw [awp_seq] | simp only [pkS, TyB, Nat.reduceSub, hful, hwx, hwt, hw3, hat, hnl, hnn, pkY, Int.reduceEq, bne_self_eq_false, Int.reduceBEq, Int.reduceBNe, if_true, if_false, implies_true, Nat.reduceEqDiff, Nat.reduceAdd, Nat.reduceMul, Nat.reduceLeDiff, Nat.reduceLT, Nat.reduceBEq, beq_self_eq_true, reduceCtorEq, imp_self, ne_eq, not_false_eq_true, beq_iff_eq, forall_const, true_implies] | refine CallR_of (hnxt) ?_ | (refine CallR_of (CallOK.le (hnxt) ?_) ?_; focus (simp [argsLe, aLe, csLe, cLe] <;> fail)) | refine CallRG_of (fun hg => hnxt) rfl ?_ | (refine CallRG_of (fun hg => CallOK.le (hnxt) ?_) rfl ?_; focus (simp [argsLe, aLe, csLe, cLe] <;> fail)) | (refine CallRG_tt ?_; refine CallR_of (hnxt) ?_) | (refine CallRG_tt ?_; refine CallR_of (CallOK.le (hnxt) ?_) ?_; focus (simp [argsLe, aLe, csLe, cLe] <;> fail)) | with_reducible refine CondR_tt ?_ | with_reducible refine CondR_ff ?_ | refine CallRG_no ?_ | refine CondR_of (fun hb => ?_) (fun hb => ?_) | (refine And.intro ?_ ?_; focus ((try with_reducible refine GIm_of ?_); first | (with_reducible rfl) | (with_reducible refine rng_of ?_; rfl) | (with_reducible refine ordOK_of ?_; kernel_rfl) | (with_reducible refine chk_of ?_; kernel_rfl) | (intros; omega) | (intro q1 q2; rw [q1, q2]; rfl) | (intro q1; rw [q1]; rfl) | (intro q; simp only [Bool.and_eq_true, decide_eq_true_eq, beq_iff_eq] at q; omega) | (intros; simp_all; done) | (intros; simp [List.range, List.range.loop]; done) | (intros; simp_all [List.range, List.range.loop]; done))) | refine And.intro (fun hg => ?_) (fun hg => ?_) | (with_reducible refine chk_of ?_; kernel_rfl) | fail)
      exact hK _ (i + 1, L, want) (Gh.canon [32, 12, 14, 16] [] [] (by simp only [hw, fgc_dead, fgc_dv, fgc_lent, fgc_nil, fgc_ptr, fgc_own, List.set_cons_zero, List.set_cons_succ, and_true, true_and, Int.natCast_zero, Int.cast_ofNat_Int, D.v.injEq, Value.int.injEq]; try (repeat' (first | rfl | omega | with_reducible apply And.intro))) rfl rfl) ⟨hi, hi2, ⟨hL.ph, hL.vw, hL.sl, hL.nx, by simp only; omega, hL.wr, hL.tv, hL.ts, by simp only; omega, hL.hl⟩⟩ (by simp only; omega)
  · clear hK
    have hsl := slots_ok L (X.done + (o : Int)) (by rw [hL.sl, voteOf_len]; omega) (by
      rw [hL.sl]
      intro w hw
      obtain ⟨j, k1, k2, k3, k4, k5⟩ := voteOf_mem hw
      have := hL.wr _ k5
      exact ⟨by omega, by omega, by omega⟩)
    have hlast := last_ok L
    obtain ⟨W, hW⟩ : ∃ W, W = slotsP L (X.done + (o : Int)) := ⟨_, rfl⟩
    have hWd : W = ((voteOf v (X.done + 1) 0 want).drop o).take 3 := by
      rw [hW, slotsP, if_neg (by rw [hL.ph]; simp), hL.sl, slots_window (o := o) (by omega)]
      simp
    rw [← hW] at hsl
    have hWl : W.length = min 3 (want.length - o) := by rw [hWd, List.length_take, List.length_drop, voteOf_len]
    have hWg : ∀ (m : Nat) (hm : m < W.length), W[m] = ⟨X.done + 1 + ((o + m : Nat) : Int), v, want[o + m]'(by omega)⟩ := by
      intro m hm
      have h1 : o + m < (voteOf v (X.done + 1) 0 want).length := by rw [voteOf_len]; omega
      have := voteOf_get (v := v) (f := X.done + 1) (bs := want) (i := 0) (j := o + m) h1 (by omega)
      rw [Nat.zero_add] at this
      rw [← this]
      simp only [hWd, List.getElem_take, List.getElem_drop]
    have hw1' : IntKind.i64.wrap (X.done + (o : Int) + 1) = X.done + (o : Int) + 1 := wrap64 (by omega) (by omega)
    repeat' (first | with_reducible refine SeqQ_normal _ _ ?_ | rw [awp_seq] | simp only [pkS, TyB, Nat.reduceSub, hw1', pkY, Int.reduceEq, bne_self_eq_false, Int.reduceBEq, Int.reduceBNe, if_true, if_false, implies_true, Nat.reduceEqDiff, Nat.reduceAdd, Nat.reduceMul, Nat.reduceLeDiff, Nat.reduceLT, Nat.reduceBEq, beq_self_eq_true, reduceCtorEq, imp_self, ne_eq, not_false_eq_true, beq_iff_eq, forall_const, true_implies] | refine CallR_of (hsl) ?_ | (refine CallR_of (CallOK.le (hsl) ?_) ?_; focus (simp [argsLe, aLe, csLe, cLe] <;> fail)) | refine CallRG_of (fun hg => hsl) rfl ?_ | (refine CallRG_of (fun hg => CallOK.le (hsl) ?_) rfl ?_; focus (simp [argsLe, aLe, csLe, cLe] <;> fail)) | (refine CallRG_tt ?_; refine CallR_of (hsl) ?_) | (refine CallRG_tt ?_; refine CallR_of (CallOK.le (hsl) ?_) ?_; focus (simp [argsLe, aLe, csLe, cLe] <;> fail)) | with_reducible refine CondR_tt ?_ | with_reducible refine CondR_ff ?_ | refine CallRG_no ?_ | refine CondR_of (fun hb => ?_) (fun hb => ?_) | (refine And.intro ?_ ?_; focus ((try with_reducible refine GIm_of ?_); first | (with_reducible rfl) | (with_reducible refine rng_of ?_; rfl) | (with_reducible refine ordOK_of ?_; kernel_rfl) | (with_reducible refine chk_of ?_; kernel_rfl) | (intros; omega) | (intro q1 q2; rw [q1, q2]; rfl) | (intro q1; rw [q1]; rfl) | (intro q; simp only [Bool.and_eq_true, decide_eq_true_eq, beq_iff_eq] at q; omega) | (intros; simp_all; done) | (intros; simp [List.range, List.range.loop]; done) | (intros; simp_all [List.range, List.range.loop]; done))) | refine And.intro (fun hg => ?_) (fun hg => ?_) | (with_reducible refine chk_of ?_; kernel_rfl) | fail)
    refine LoopR_ix Ty Try.prog (τ := Nat × Nat) (fun t => ⟨[ru v, dd, dd, dd, dd, dd, dd, dd, dd, dd, dd, .one (.ptr ⟨32, 0, 1⟩ 0), .one (.ptr ⟨12, 0, 1⟩ 0), ai (X.done + (o : Int)), .one (.ptr ⟨14, 0, 1⟩ 0), ai L.time, .one (.own ⟨16, 1, 1⟩ 0 want.length), dd, dd, dd, dd, dd, .one (.own ⟨22, 1, 1⟩ 0 W.length), ai t.2, ai (X.done + (o : Int) + 1 + (t.1 : Int)), dd, dd, dd, dd, dd, dd, dd, dd, dd, dd, dd, dd, dd, dd, dd, dd, dd, dd, dd, dd, dd, dd, dd, dd, dd, dd, dd, dd, dd, dd, dd, dd, dd, dd, dd, dd, dd, dd, dd, dd, dd, dd, dd, dd, dd, dd, dd, dd, dd, dd, dd, dd, dd, dd, dd, dd, dd, dd, dd, dd, dd, dd, dd, dd, dd, dd, dd, dd, dd, dd, dd, dd, dd, dd, dd, dd, dd, dd, dd, dd, dd, dd, dd, dd, dd, dd, dd, dd, dd, dd, dd, dd, dd, dd, dd, dd, dd, dd, dd, dd, dd, dd, dd, dd, dd, dd, dd, dd, dd, dd, dd, dd, dd, dd, dd, dd, dd, dd, dd, dd, dd, dd, dd, dd, dd, dd, dd, dd, dd, dd, dd, dd, dd, dd, dd, dd, dd, dd, dd, dd, dd, dd, dd, dd, dd, dd, dd, dd, dd, dd, dd, dd, dd, dd, dd, dd, dd, dd, dd, dd, dd, dd, dd, dd, dd, dd, dd, dd, dd, dd, dd, dd, dd, dd, dd, dd, dd, dd, dd, dd, dd, dd, dd, dd, dd, dd, dd, dd, dd, dd, dd, dd, dd, dd],
        [(6, ⟨2, []⟩), (7, ⟨2, []⟩), (32, { next := 2, l := [some { e := 1, var := true, fz := false, sz := 0, cells := [di L.n, di L.phase, di L.view, .own ⟨32, 4, 1⟩ 0 L.heard.length, .own ⟨32, 5, 1⟩ 0 L.slots.length, di L.next, di L.tip.view, di L.tip.slot, di L.time] }, none, none, none, some { e := 1, var := false, fz := false, sz := 6, cells := (promisesE L.heard).map C.d }, some { e := 1, var := false, fz := false, sz := 8, cells := (votesE L.slots).map C.d }, none, none, none, none] }), (1000032, ⟨2, []⟩), (12, { next := 2, l := [some { e := 1, var := true, fz := false, sz := 0, cells := [di X.done, di X.tip.view, di X.tip.slot, di X.time, .own ⟨12, 5, 1⟩ 0 X.batches.length, di X.after.view, di X.after.slot, di X.later] }, none, none, none, none, some { e := 1, var := false, fz := false, sz := 6, cells := (batchesE X.batches).map C.d }, none, none, none] }), (14, { next := 2, l := [some { e := 1, var := true, fz := false, sz := 0, cells := [di L.tip.view, di L.tip.slot] }, none, none] }), (50, ⟨2, []⟩), (16, { next := 2, l := [none, some { e := 1, var := false, fz := false, sz := 6, cells := (batchesE want).map C.d }] }), (21, ⟨2, []⟩), (73, ⟨2, []⟩), (113, ⟨2, []⟩), (126, ⟨2, []⟩), (127, ⟨2, []⟩), (137, ⟨2, []⟩), (22, { next := 2, l := [none, some { e := 1, var := false, fz := false, sz := 8, cells := (votesE W).map C.d }] })]⟩)
      (fun t => t.1 ≤ 3 ∧ t.2 = min t.1 (want.length - o)) (fun t => 3 - t.1) (0, 0) (Gh.canon [32, 12, 14, 16, 22] [] [] (by simp only [Int.add_zero, fgc_dead, fgc_dv, fgc_lent, fgc_nil, fgc_ptr, fgc_own, List.set_cons_zero, List.set_cons_succ, and_true, true_and, Int.natCast_zero, Int.cast_ofNat_Int, D.v.injEq, Value.int.injEq]; try (repeat' (first | rfl | omega | with_reducible apply And.intro))) rfl rfl) ⟨Nat.zero_le _, by simp⟩ ?_
    intro ⟨m, k⟩ ⟨hm0, hk⟩ K hK
    simp only at hm0 hk hK ⊢
    have hw3 : IntKind.i64.wrap (X.done + (o : Int) + 3) = X.done + (o : Int) + 3 := wrap64 (by omega) (by omega)
    repeat (first | with_reducible refine SeqQ_normal _ _ ?_ | with_reducible refine And.imp_right (SeqQ_normal _ _) ?_ | with_reducible refine And.imp_right (And.imp_right (SeqQ_normal _ _)) ?_ | with_reducible refine And.imp_right (And.imp_right (And.imp_right (SeqQ_normal _ _))) ?_ | rw [awp_seq] | simp only [pkS, TyB, Nat.reduceSub, hw3, if_true, if_false, implies_true, Nat.reduceEqDiff, Nat.reduceAdd, Nat.reduceMul, Nat.reduceLeDiff, Nat.reduceLT, Nat.reduceBEq, beq_self_eq_true, reduceCtorEq, imp_self, ne_eq, not_false_eq_true, beq_iff_eq, forall_const, true_implies])
    refine CondR_of (fun hlt => ?_) (fun hge => ?_)
    · simp only [decide_eq_true_eq] at hlt
      have hm : m < 3 := by omega
      have e1 : IntKind.i64.wrap (X.done + (o : Int) + 1 + (m : Int) - X.done) = (o : Int) + 1 + m := by rw [wrap64 (by omega) (by omega)]; omega
      have e2 : IntKind.i64.wrap ((o : Int) + 1 + (m : Int) - 1) = ((o + m : Nat) : Int) := by rw [wrap64 (by omega) (by omega)]; omega
      have e3 : IntKind.i64.wrap (X.done + (o : Int) + 1 + (m : Int) + 1) = X.done + (o : Int) + 1 + ((m + 1 : Nat) : Int) := by rw [wrap64 (by omega) (by omega)]; omega
      have e4 : decide (((o + m : Nat) : Int) < 0) = false := by simp; omega
      cases e5 : decide (((o + m : Nat) : Int) ≥ (want.length : Int))
      · have hlt2 : o + m < want.length := by simp at e5; omega
        have hkm : k = m := by omega
        have hkW : k < W.length := by omega
        have hg := hWg k hkW
        have hat := votes_at hkW
        rw [hg] at hat
        have hat2 := batches_at hlt2
        have hix : o + k = o + m := by omega
        simp only [List.cons_append, List.nil_append, hix] at hat hat2
        have hat1 := drop_mor' 1 hat
        have hat2' := drop_mor' 2 hat
        simp only [List.drop_succ_cons, List.drop_zero] at hat1 hat2'
        have e6 : decide ((k : Int) ≥ (W.length : Int)) = false := by simp; omega
        have e7 : (X.done + 1 + ((o + m : Nat) : Int) != X.done + (o : Int) + 1 + (m : Int)) = false := by simp; omega
        have e8 : (v != v) = false := by simp
        have e9 : IntKind.i64.wrap ((k : Int) + 1) = ((k + 1 : Nat) : Int) := by rw [wrap64 (by omega) (by omega)]; rfl
        have hsm := same12_ok want[o + m] (by have := hL.wr _ (List.getElem_mem hlt2); omega)
        repeat' (first | with_reducible refine SeqQ_normal _ _ ?_ | rw [awp_seq] | simp only [pkS, TyB, Nat.reduceSub, hw3, e1, e2, e4, e5, e6, e7, e8, e9, hwv, ← List.map_drop, List.map_cons, hat, hat1, hat2', hat2, votes_len, batches_len, pkY, Int.reduceEq, bne_self_eq_false, Int.reduceBEq, Int.reduceBNe, if_true, if_false, implies_true, Nat.reduceEqDiff, Nat.reduceAdd, Nat.reduceMul, Nat.reduceLeDiff, Nat.reduceLT, Nat.reduceBEq, beq_self_eq_true, reduceCtorEq, imp_self, ne_eq, not_false_eq_true, beq_iff_eq, forall_const, true_implies] | refine CallR_of (hsm) ?_ | (refine CallR_of (CallOK.le (hsm) ?_) ?_; focus (simp [argsLe, aLe, csLe, cLe] <;> fail)) | refine CallRG_of (fun hg => hsm) rfl ?_ | (refine CallRG_of (fun hg => CallOK.le (hsm) ?_) rfl ?_; focus (simp [argsLe, aLe, csLe, cLe] <;> fail)) | (refine CallRG_tt ?_; refine CallR_of (hsm) ?_) | (refine CallRG_tt ?_; refine CallR_of (CallOK.le (hsm) ?_) ?_; focus (simp [argsLe, aLe, csLe, cLe] <;> fail)) | with_reducible refine CondR_tt ?_ | with_reducible refine CondR_ff ?_ | refine CallRG_no ?_ | refine CondR_of (fun hb => ?_) (fun hb => ?_) | (refine And.intro ?_ ?_; focus ((try with_reducible refine GIm_of ?_); first | (with_reducible rfl) | (with_reducible refine rng_of ?_; rfl) | (with_reducible refine ordOK_of ?_; kernel_rfl) | (with_reducible refine chk_of ?_; kernel_rfl) | (intros; omega) | (intro q1 q2; rw [q1, q2]; rfl) | (intro q1; rw [q1]; rfl) | (intro q; simp only [Bool.and_eq_true, decide_eq_true_eq, beq_iff_eq] at q; omega) | (intros; simp_all; done) | (intros; simp [List.range, List.range.loop]; done) | (intros; simp_all [List.range, List.range.loop]; done))) | refine And.intro (fun hg => ?_) (fun hg => ?_) | (with_reducible refine chk_of ?_; kernel_rfl) | fail)
        exact hK _ (m + 1, k + 1) (Gh.canon [32, 12, 14, 16, 22] [] [] (by simp only [e3, fgc_dead, fgc_dv, fgc_lent, fgc_nil, fgc_ptr, fgc_own, List.set_cons_zero, List.set_cons_succ, and_true, true_and, Int.natCast_zero, Int.cast_ofNat_Int, D.v.injEq, Value.int.injEq]; try (repeat' (first | rfl | omega | with_reducible apply And.intro))) rfl rfl) ⟨hm, by simp only; omega⟩ (by simp only; omega)
      · repeat' (first | with_reducible refine SeqQ_normal _ _ ?_ | rw [awp_seq] | simp only [pkS, TyB, Nat.reduceSub, hw3, e1, e2, e4, e5, pkY, Int.reduceEq, bne_self_eq_false, Int.reduceBEq, Int.reduceBNe, if_true, if_false, implies_true, Nat.reduceEqDiff, Nat.reduceAdd, Nat.reduceMul, Nat.reduceLeDiff, Nat.reduceLT, Nat.reduceBEq, beq_self_eq_true, reduceCtorEq, imp_self, ne_eq, not_false_eq_true, beq_iff_eq, forall_const, true_implies] | with_reducible refine CondR_tt ?_ | with_reducible refine CondR_ff ?_ | refine CallRG_no ?_ | refine CondR_of (fun hb => ?_) (fun hb => ?_) | (refine And.intro ?_ ?_; focus ((try with_reducible refine GIm_of ?_); first | (with_reducible rfl) | (with_reducible refine rng_of ?_; rfl) | (with_reducible refine ordOK_of ?_; kernel_rfl) | (with_reducible refine chk_of ?_; kernel_rfl) | (intros; omega) | (intro q1 q2; rw [q1, q2]; rfl) | (intro q1; rw [q1]; rfl) | (intro q; simp only [Bool.and_eq_true, decide_eq_true_eq, beq_iff_eq] at q; omega) | (intros; simp_all; done) | (intros; simp [List.range, List.range.loop]; done) | (intros; simp_all [List.range, List.range.loop]; done))) | refine And.intro (fun hg => ?_) (fun hg => ?_) | (with_reducible refine chk_of ?_; kernel_rfl) | fail)
        exact hK _ (m + 1, k) (Gh.canon [32, 12, 14, 16, 22] [] [] (by simp only [e3, fgc_dead, fgc_dv, fgc_lent, fgc_nil, fgc_ptr, fgc_own, List.set_cons_zero, List.set_cons_succ, and_true, true_and, Int.natCast_zero, Int.cast_ofNat_Int, D.v.injEq, Value.int.injEq]; try (repeat' (first | rfl | omega | with_reducible apply And.intro))) rfl rfl) ⟨hm, by simp at e5; simp only; omega⟩ (by simp only; omega)
    · simp only [decide_eq_false_iff_not] at hge
      have hkW : ((k : Int) == (W.length : Int)) = true := by simp; omega
      have t1 : (L.time == L.time) = true := by simp
      clear hWg hWd hWl hW hnx hwn htm hrl hrq hk hge hsl hL hK
      repeat' (first | with_reducible refine SeqQ_normal _ _ ?_ | rw [awp_seq] | simp only [pkS, TyB, Nat.reduceSub, hkW, t1, pkY, Int.reduceEq, bne_self_eq_false, Int.reduceBEq, Int.reduceBNe, if_true, if_false, implies_true, Nat.reduceEqDiff, Nat.reduceAdd, Nat.reduceMul, Nat.reduceLeDiff, Nat.reduceLT, Nat.reduceBEq, beq_self_eq_true, reduceCtorEq, imp_self, ne_eq, not_false_eq_true, beq_iff_eq, forall_const, true_implies] | refine CallR_of (hlast) ?_ | refine CallR_of (awake_ok) ?_ | (refine CallR_of (CallOK.le (hlast) ?_) ?_; focus (simp [argsLe, aLe, csLe, cLe] <;> fail)) | (refine CallR_of (CallOK.le (awake_ok) ?_) ?_; focus (simp [argsLe, aLe, csLe, cLe] <;> fail)) | refine CallRG_of (fun hg => hlast) rfl ?_ | refine CallRG_of (fun hg => awake_ok) rfl ?_ | (refine CallRG_of (fun hg => CallOK.le (hlast) ?_) rfl ?_; focus (simp [argsLe, aLe, csLe, cLe] <;> fail)) | (refine CallRG_of (fun hg => CallOK.le (awake_ok) ?_) rfl ?_; focus (simp [argsLe, aLe, csLe, cLe] <;> fail)) | (refine CallRG_tt ?_; refine CallR_of (hlast) ?_) | (refine CallRG_tt ?_; refine CallR_of (awake_ok) ?_) | (refine CallRG_tt ?_; refine CallR_of (CallOK.le (hlast) ?_) ?_; focus (simp [argsLe, aLe, csLe, cLe] <;> fail)) | (refine CallRG_tt ?_; refine CallR_of (CallOK.le (awake_ok) ?_) ?_; focus (simp [argsLe, aLe, csLe, cLe] <;> fail)) | with_reducible refine CondR_tt ?_ | with_reducible refine CondR_ff ?_ | refine CallRG_no ?_ | refine CondR_of (fun hb => ?_) (fun hb => ?_) | (refine And.intro ?_ ?_; focus ((try with_reducible refine GIm_of ?_); first | (with_reducible rfl) | (with_reducible refine rng_of ?_; rfl) | (with_reducible refine ordOK_of ?_; kernel_rfl) | (with_reducible refine chk_of ?_; kernel_rfl) | (intros; omega) | (intro q1 q2; rw [q1, q2]; rfl) | (intro q1; rw [q1]; rfl) | (intro q; simp only [Bool.and_eq_true, decide_eq_true_eq, beq_iff_eq] at q; omega) | (intros; simp_all; done) | (intros; simp [List.range, List.range.loop]; done) | (intros; simp_all [List.range, List.range.loop]; done))) | refine And.intro (fun hg => ?_) (fun hg => ?_) | (with_reducible refine chk_of ?_; kernel_rfl) | fail)
end Go.Proofs.Ytgiempmfpmlgnaa

