/- PlanMade: the promises that numbers make, as one list, and what is made of them. -/
import Derived.Test.YthlolabfogklgaaV
import Derived.Test.YthlolabfogklgaaS
namespace Go.Proofs.Ythlolabfogklgaa
open Go.Pk
set_option maxRecDepth 100000
set_option linter.unusedSimpArgs false
set_option linter.unusedVariables false
def promsB : Nat → List NTold → List Prom
  | _, [] => []
  | i, t :: l => promB i t :: promsB (i + 1) l
abbrev promsRf (l : List Prom) : RF := .one (.own 6 l.length (promisesE l) false)
theorem promsB_len : ∀ {l : List NTold} {i : Nat}, (promsB i l).length = l.length
  | [], _ => rfl
  | t :: l, i => by rw [promsB, List.length_cons, List.length_cons, promsB_len]
set_option maxHeartbeats 1000000 in
theorem promises_ok4 (l : List NTold) (hl : l.length < 2 ^ 60) (hok : ∀ t ∈ l, t.ok) : CallOK Try.prog 14 [.f (al l.length (ntoldE l))] (fun r o => r = [promsRf (promsB 0 (l.take 7))] ∧ o = []) := by
  refine callOK_of TOKTy mixed (T := Ty) (n := 46) Try.func14 (c := Try.f14.body.getD .skip) rfl Try.results14 Try.ntmps14 Try.call14 ?_
  simp only [Try.f14, Option.getD]
  repeat (first | rw [SeqQ_normal] | rw [awp_seq] | simp only [pk0, pk1, pk2, pk3, pk4, pk5, pk6, pk7, pe0, pe1, TyB, BlkQ_normal, BlkQ_exit, BlkQ_ret, SeqQ_exit, SeqQ_ret, RndQ_normal, RndQ_exit, RndQ_ret, List.length_cons, List.length_nil, Nat.reduceSub,  true_and, and_true, if_true, if_false, Nat.zero_add, Nat.add_zero, implies_true, Bool.true_and, Bool.and_true, Bool.false_eq_true, Nat.reduceEqDiff, Nat.reduceAdd, Nat.reduceMul, Nat.reduceLeDiff, Nat.reduceLT, Nat.reduceBEq, Bool.or_false, Bool.false_or, Bool.true_or, Bool.or_true, Bool.false_and, Bool.and_false, beq_self_eq_true, Nat.zero_lt_succ, List.zip_nil_left, List.zip_nil_right, Int.toNat_natCast, reduceCtorEq, imp_self, ne_eq, not_false_eq_true, beq_iff_eq, forall_const, true_implies])
  refine LoopR_fn (τ := Nat × List Prom) (fun t => ⟨[al l.length (ntoldE l), dd, dd, .one (.own ⟨3, 1, 1⟩ 0 t.2.length), ai t.1, dd, dd, dd, dd, dd, dd, dd, dd, dd, dd, dd, dd, dd, dd, dd, dd, dd, dd, dd, dd, dd, dd, dd, dd, dd, dd, dd, dd, dd, dd, dd, dd, dd, dd, dd, dd, dd, dd, dd, dd, dd], [(3, { next := 2, l := [none, some { e := 1, var := false, fz := false, sz := 6, cells := (promisesE t.2).map C.d }] }), (42, ⟨2, []⟩), (43, ⟨2, []⟩), (44, ⟨2, []⟩)]⟩)
    (fun t => t.1 ≤ l.length ∧ t.1 ≤ 7 ∧ t.2.length = t.1) (fun t => t.2 ++ promsB t.1 ((l.take 7).drop t.1)) (fun t => l.length - t.1) (0, [])
    ((Gh.nil (i := 3) (s := 3) (sz := 6) rfl).trans (Gh.canon [3] [42, 43, 44] [] (by simp only [fgc_dead, fgc_dv, fgc_lent, fgc_nil, fgc_ptr, fgc_own, List.set_cons_zero, List.set_cons_succ, and_true, true_and, Int.natCast_zero, Int.cast_ofNat_Int, D.v.injEq, Value.int.injEq]; try (repeat' (first | rfl | omega | with_reducible apply And.intro))) rfl rfl)) ⟨Nat.zero_le _, Nat.zero_le _, rfl⟩ ?_
  intro ⟨i, acc⟩ ⟨hi0, hi7, ha⟩ hF K hK
  simp only [List.drop_zero, List.nil_append] at hi0 hi7 ha hF hK ⊢
  repeat' (first | rw [SeqQ_normal] | rw [awp_seq] | simp only [pk0, pk1, pk2, pk3, pk4, pk5, pk6, pk7, pe0, pe1, TyB, BlkQ_normal, BlkQ_exit, BlkQ_ret, SeqQ_exit, SeqQ_ret, RndQ_normal, RndQ_exit, RndQ_ret, List.length_cons, List.length_nil, Nat.reduceSub, sub0, Nat.sub_zero, reqs_take, votes_take, promises_take, batches_take, Int.reduceEq, Bool.true_beq, Bool.false_beq, toDs_map, sub_map, Nat.zero_mul, Nat.one_mul, Nat.mul_one, List.drop_zero, List.length_map, sub1_1, sub1_2, sub1_3, sub1_4, sub1_5, sub1_6, sub1_7, sub1_8, Int.toNat_zero, Int.toNat_one, true_and, and_true, if_true, if_false, Nat.zero_add, Nat.add_zero, implies_true, Bool.true_and, Bool.and_true, Bool.false_eq_true, Nat.reduceEqDiff, Nat.reduceAdd, Nat.reduceMul, Nat.reduceLeDiff, Nat.reduceLT, Nat.reduceBEq, Bool.or_false, Bool.false_or, Bool.true_or, Bool.or_true, Bool.false_and, Bool.and_false, beq_self_eq_true, Nat.zero_lt_succ, List.zip_nil_left, List.zip_nil_right, Int.toNat_natCast, reduceCtorEq, imp_self, ne_eq, not_false_eq_true, beq_iff_eq, forall_const, true_implies] | with_reducible refine CondR_tt ?_ | with_reducible refine CondR_ff ?_ | refine CondR_of (fun hb => ?_) (fun hb => ?_) | (refine And.intro ?_ ?_; focus ((try with_reducible refine GIm_of ?_); first | (with_reducible rfl) | (show _ = List.range _; rfl) | (show ordB _ = true; kernel_rfl) | (show chkFP _ _ = true; kernel_rfl) | (intros; omega) | (intro q1 q2; rw [q1, q2]; rfl) | (intro q1; rw [q1]; rfl) | (intro q; simp only [Bool.and_eq_true, decide_eq_true_eq, beq_iff_eq] at q; omega) | (intros; simp_all; done) | (intros; simp [List.range, List.range.loop]; done) | (intros; simp_all [List.range, List.range.loop]; done))) | refine And.intro (fun hg => ?_) (fun hg => ?_) | fail)
  · have hi : i < l.length := by simp at hb; omega
    have h7 : i < 7 := by simp at hb; omega
    have hat := ntold_at hi
    simp only [List.cons_append, List.nil_append] at hat
    have hpo := promise_ok4 i l[i] (by omega) (hok _ (List.getElem_mem hi))
    have hit : i < (l.take 7).length := by rw [List.length_take]; omega
    have hd : (l.take 7).drop i = l[i] :: (l.take 7).drop (i + 1) := by rw [List.drop_eq_getElem_cons hit, List.getElem_take]
    repeat' (first | rw [SeqQ_normal] | rw [awp_seq] | simp only [pk0, pk1, pk2, pk3, pk4, pk5, pk6, pk7, pe0, pe1, TyB, BlkQ_normal, BlkQ_exit, BlkQ_ret, SeqQ_exit, SeqQ_ret, RndQ_normal, RndQ_exit, RndQ_ret, List.length_cons, List.length_nil, Nat.reduceSub, hat, ntold_len, sub0, Nat.sub_zero, reqs_take, votes_take, promises_take, batches_take, Int.reduceEq, Bool.true_beq, Bool.false_beq, toDs_map, sub_map, Nat.zero_mul, Nat.one_mul, Nat.mul_one, List.drop_zero, List.length_map, sub1_1, sub1_2, sub1_3, sub1_4, sub1_5, sub1_6, sub1_7, sub1_8, Int.toNat_zero, Int.toNat_one, true_and, and_true, if_true, if_false, Nat.zero_add, Nat.add_zero, implies_true, Bool.true_and, Bool.and_true, Bool.false_eq_true, Nat.reduceEqDiff, Nat.reduceAdd, Nat.reduceMul, Nat.reduceLeDiff, Nat.reduceLT, Nat.reduceBEq, Bool.or_false, Bool.false_or, Bool.true_or, Bool.or_true, Bool.false_and, Bool.and_false, beq_self_eq_true, Nat.zero_lt_succ, List.zip_nil_left, List.zip_nil_right, Int.toNat_natCast, reduceCtorEq, imp_self, ne_eq, not_false_eq_true, beq_iff_eq, forall_const, true_implies] | refine CallR_of (by first | exact hpo | exact CallOK.le (hpo) (by simp [argsLe, aLe, csLe, cLe])) ?_ | refine CallRG_of (fun hg => by first | exact hpo | exact CallOK.le (hpo) (by simp [argsLe, aLe, csLe, cLe])) rfl ?_ | with_reducible refine CondR_tt ?_ | with_reducible refine CondR_ff ?_ | refine CondR_of (fun hb => ?_) (fun hb => ?_) | (refine And.intro ?_ ?_; focus ((try with_reducible refine GIm_of ?_); first | (with_reducible rfl) | (show _ = List.range _; rfl) | (show ordB _ = true; kernel_rfl) | (show chkFP _ _ = true; kernel_rfl) | (intros; omega) | (intro q1 q2; rw [q1, q2]; rfl) | (intro q1; rw [q1]; rfl) | (intro q; simp only [Bool.and_eq_true, decide_eq_true_eq, beq_iff_eq] at q; omega) | (intros; simp_all; done) | (intros; simp [List.range, List.range.loop]; done) | (intros; simp_all [List.range, List.range.loop]; done))) | refine And.intro (fun hg => ?_) (fun hg => ?_) | fail)
    refine hK _ (i + 1, acc ++ [promB i l[i]]) (Gh.canon [3] [] [] (by simp only [i64_succ hi (by omega), List.length_append, List.length_singleton, fgc_dead, fgc_dv, fgc_lent, fgc_nil, fgc_ptr, fgc_own, List.set_cons_zero, List.set_cons_succ, and_true, true_and, Int.natCast_zero, Int.cast_ofNat_Int, D.v.injEq, Value.int.injEq]; try (repeat' (first | rfl | omega | with_reducible apply And.intro))) rfl (by simp only [List.length_append, List.length_singleton]; rw [promisesE_snoc]; rfl))
      ⟨hi, h7, by simp only [List.length_append, List.length_singleton]; omega⟩ ?_ (by simp only; omega)
    simp only
    rw [hd, promsB, List.append_assoc, List.singleton_append]
  · have hd : (l.take 7).drop i = [] := List.drop_of_length_le (by rw [List.length_take]; simp at hb; omega)
    rw [hd, promsB, List.append_nil] at hF
    rw [← hF]
    repeat' (first | rw [SeqQ_normal] | rw [awp_seq] | simp only [pk0, pk1, pk2, pk3, pk4, pk5, pk6, pk7, pe0, pe1, TyB, BlkQ_normal, BlkQ_exit, BlkQ_ret, SeqQ_exit, SeqQ_ret, RndQ_normal, RndQ_exit, RndQ_ret, List.length_cons, List.length_nil, Nat.reduceSub, sub0, Nat.sub_zero, reqs_take, votes_take, promises_take, batches_take, Int.reduceEq, Bool.true_beq, Bool.false_beq, toDs_map, sub_map, Nat.zero_mul, Nat.one_mul, Nat.mul_one, List.drop_zero, List.length_map, sub1_1, sub1_2, sub1_3, sub1_4, sub1_5, sub1_6, sub1_7, sub1_8, Int.toNat_zero, Int.toNat_one, true_and, and_true, if_true, if_false, Nat.zero_add, Nat.add_zero, implies_true, Bool.true_and, Bool.and_true, Bool.false_eq_true, Nat.reduceEqDiff, Nat.reduceAdd, Nat.reduceMul, Nat.reduceLeDiff, Nat.reduceLT, Nat.reduceBEq, Bool.or_false, Bool.false_or, Bool.true_or, Bool.or_true, Bool.false_and, Bool.and_false, beq_self_eq_true, Nat.zero_lt_succ, List.zip_nil_left, List.zip_nil_right, Int.toNat_natCast, reduceCtorEq, imp_self, ne_eq, not_false_eq_true, beq_iff_eq, forall_const, true_implies] | with_reducible refine CondR_tt ?_ | with_reducible refine CondR_ff ?_ | refine CondR_of (fun hb => ?_) (fun hb => ?_) | (refine And.intro ?_ ?_; focus ((try with_reducible refine GIm_of ?_); first | (with_reducible rfl) | (show _ = List.range _; rfl) | (show ordB _ = true; kernel_rfl) | (show chkFP _ _ = true; kernel_rfl) | (intros; omega) | (intro q1 q2; rw [q1, q2]; rfl) | (intro q1; rw [q1]; rfl) | (intro q; simp only [Bool.and_eq_true, decide_eq_true_eq, beq_iff_eq] at q; omega) | (intros; simp_all; done) | (intros; simp [List.range, List.range.loop]; done) | (intros; simp_all [List.range, List.range.loop]; done))) | refine And.intro (fun hg => ?_) (fun hg => ?_) | fail)
/-! ### What numbers make may be held -/
theorem nameOf_size (k : Nat) : (nameOf k).size < 2 ^ 62 := by
  unfold nameOf
  split <;> decide
theorem i64_small {n : Int} (h1 : 0 ≤ n) (h2 : n < 1000) : i64 n := by unfold i64; omega
theorem cmdP_ok (a b c : Int) : i64 (cmdP a b c).1 ∧ i64 (cmdP a b c).2.1 ∧ (cmdP a b c).2.2.size < 2 ^ 62 := by
  have h6 := Nat.mod_lt a.toNat (show 0 < 6 by decide)
  have h7 := Nat.mod_lt b.toNat (show 0 < 7 by decide)
  refine ⟨i64_small (by simp only [cmdP]; omega) (by simp only [cmdP]; omega), ?_, ?_⟩
  · simp only [cmdP]
    split
    · exact i64_small (by omega) (by omega)
    · exact i64_small (by omega) (by omega)
  · simp only [cmdP]
    split
    · exact nameOf_size _
    · decide
theorem reqP_ok {c q a b d : Int} (hq : u8 q) : (reqP c q a b d).ok := by
  have h8 := Nat.mod_lt c.toNat (show 0 < 8 by decide)
  obtain ⟨h1, h2, h3⟩ := cmdP_ok a b d
  exact ⟨i64_small (by simp only [reqP]; omega) (by simp only [reqP]; omega), i64_small (by simp only [reqP]; have := hq.1; omega) (by simp only [reqP]; have := hq.2; omega), h1, h2, h3⟩
theorem u8_getD {l : List Int} (h : ∀ x ∈ l, u8 x) (i : Nat) : u8 (l.getD i 0) := by
  rw [List.getD_eq_getElem?_getD]
  cases hi : l[i]? with
  | none => exact ⟨Int.le_refl _, by decide⟩
  | some x => exact h x (List.mem_of_getElem? hi)
theorem reqsB_ok {l : List Int} (h : ∀ x ∈ l, u8 x) : ∀ (n i : Nat) (acc : List Req), acc.length ≤ 3 → (∀ r ∈ acc, r.ok) → (reqsB l acc n i).length ≤ 3 ∧ ∀ r ∈ reqsB l acc n i, r.ok
  | 0, i, acc, h1, h2 => ⟨h1, h2⟩
  | n + 1, i, acc, h1, h2 => by
    rw [reqsB]
    split
    · rename_i hc
      dsimp only
      split
      · exact reqsB_ok h n (i + 5) acc h1 h2
      · refine reqsB_ok h n (i + 5) _ (by rw [List.length_append, List.length_singleton]; omega) fun r hr => ?_
        rcases List.mem_append.1 hr with hr | hr
        · exact h2 r hr
        · rw [List.mem_singleton] at hr
          subst hr
          exact reqP_ok (u8_getD h _)
    · exact ⟨h1, h2⟩
theorem batchB_ok {l : List Int} (h : ∀ x ∈ l, u8 x) : (batchB l).ok ∧ (batchB l).reqs.length ≤ 3 := by
  unfold batchB
  split
  · exact ⟨⟨i64_small (by decide) (by decide), i64_small (by decide) (by decide), i64_small (by decide) (by decide), i64_small (by decide) (by decide), by decide, fun r hr => by cases hr⟩, by decide⟩
  · obtain ⟨h1, h2⟩ := reqsB_ok h l.length 4 [] (by decide) (fun r hr => by cases hr)
    have h8 := Nat.mod_lt (l.getD 2 0).toNat (show 0 < 8 by decide)
    have h4 := Nat.mod_lt (l.getD 0 0).toNat (show 0 < 4 by decide)
    have h6 := Nat.mod_lt (l.getD 1 0).toNat (show 0 < 6 by decide)
    have hu := u8_getD h 3
    exact ⟨⟨i64_small (by simp only; omega) (by simp only; omega), i64_small (by simp only; omega) (by simp only; omega), i64_small (by simp only; omega) (by simp only; omega), i64_small hu.1 (by have := hu.2; simp only; omega),
      by simp only; omega, h2⟩, h1⟩
theorem votesB_ok {d : Int} {l : List NVote} (hd : 0 ≤ d ∧ d < 8) (h : ∀ v ∈ l, v.ok) : ∀ (n s : Nat) (acc : List Vote), s + n ≤ 10 → (∀ v ∈ acc, v.ok) → (∀ v ∈ votesB d l acc n s, v.ok) ∧ (votesB d l acc n s).length ≤ acc.length + n
  | 0, s, acc, _, h2 => ⟨h2, Nat.le_refl _⟩
  | n + 1, s, acc, hs, h2 => by
    rw [votesB]
    cases hf : l.find? (voteAt s) with
    | none =>
      obtain ⟨q1, q2⟩ := votesB_ok hd h n (s + 1) acc (by omega) h2
      exact ⟨q1, by simp only; omega⟩
    | some v =>
      have hv := h v (List.mem_of_find?_eq_some hf)
      have hm := m8_lt (x := v.ballot) (m := 9) (by decide)
      obtain ⟨q1, q2⟩ := votesB_ok hd h n (s + 1) (acc ++ [⟨d + s, m8 v.ballot 9, batchB v.ns⟩]) (by omega) fun w hw => by
        rcases List.mem_append.1 hw with hw | hw
        · exact h2 w hw
        · rw [List.mem_singleton] at hw
          subst hw
          exact ⟨i64_small (by simp only; omega) (by simp only; omega), i64_small hm.1 (by have := hm.2; simp only; omega), (batchB_ok hv.2.2.2).1⟩
      rw [List.length_append, List.length_singleton] at q2
      exact ⟨q1, by simp only; omega⟩
theorem promB_ok {i : Int} {t : NTold} (hi : 0 ≤ i ∧ i < 7) (ht : t.ok) : (promB i t).ok := by
  have h8 := m8_lt (x := t.done) (m := 8) (by decide)
  have h4 := m8_lt (x := t.view) (m := 4) (by decide)
  have h6 := m8_lt (x := t.slot) (m := 6) (by decide)
  obtain ⟨_, _, _, hu, _, hv⟩ := ht
  obtain ⟨q1, q2⟩ := votesB_ok (d := m8 t.done 8) ⟨h8.1, by have := h8.2; omega⟩ hv 9 1 [] (by decide) (fun v hv => by cases hv)
  exact ⟨i64_small hi.1 (by simp only [promB]; omega), i64_small h8.1 (by simp only [promB]; have := h8.2; omega), i64_small h4.1 (by simp only [promB]; have := h4.2; omega), i64_small h6.1 (by simp only [promB]; have := h6.2; omega),
    i64_small hu.1 (by have := hu.2; simp only [promB]; omega), by simp only [promB]; simp only [List.length_nil] at q2; omega, q1⟩
theorem promsB_ok : ∀ {l : List NTold} {i : Nat}, i + l.length ≤ 7 → (∀ t ∈ l, t.ok) → ∀ p ∈ promsB i l, p.ok
  | [], _, _, _, p, hp => by cases hp
  | t :: l, i, hi, h, p, hp => by
    rw [promsB] at hp
    rw [List.length_cons] at hi
    rcases List.mem_cons.1 hp with rfl | hp
    · exact promB_ok ⟨by omega, by omega⟩ (h t (by simp))
    · exact promsB_ok (by omega) (fun t ht => h t (by simp [ht])) p hp
set_option maxHeartbeats 1000000 in
theorem planMade_of (l : List NTold) (w : Int) (hl : l.length < 2 ^ 60) (hok : ∀ t ∈ l, t.ok) : CallOK Try.prog 4 [.f (al l.length (ntoldE l)), .f (ru w)] (fun r o => r = [rb true] ∧ o = []) := by
  have h0 := promises_ok4 l hl hok
  have hlen : (promsB 0 (l.take 7)).length ≤ 7 := by rw [promsB_len, List.length_take]; omega
  have hpk : ∀ p ∈ promsB 0 (l.take 7), p.ok := promsB_ok (by rw [List.length_take]; omega) fun t ht => hok t (List.mem_of_mem_take ht)
  generalize promsB 0 (l.take 7) = ps at h0 hlen hpk
  have key : ∀ qs : List Prom, qs.length ≤ 8 → (∀ p ∈ qs, p.ok) → _ := fun qs h1 h2 => And.intro (make_ok qs (by omega) h2) (And.intro (makePlan_ok qs (by omega) h2) (same16_ok (makeP qs).1 (makeP_small qs).1 (makeP_small qs).2))
  refine callOK_of TOKTy mixed (T := Ty) (n := 46) Try.func4 (c := Try.f4.body.getD .skip) rfl Try.results4 Try.ntmps4 Try.call4 ?_
  simp only [Try.f4, Option.getD]
  repeat' (first | rw [SeqQ_normal] | rw [awp_seq] | simp only [pk0, pk1, pk2, pk3, pk4, pk5, pk6, pk7, pe0, pe1, TyB, BlkQ_normal, BlkQ_exit, BlkQ_ret, SeqQ_exit, SeqQ_ret, RndQ_normal, RndQ_exit, RndQ_ret, List.length_cons, List.length_nil, Nat.reduceSub, sub0, Nat.sub_zero, reqs_take, votes_take, promises_take, batches_take, Int.reduceEq, Bool.true_beq, Bool.false_beq, toDs_map, sub_map, Nat.zero_mul, Nat.one_mul, Nat.mul_one, List.drop_zero, List.length_map, sub1_1, sub1_2, sub1_3, sub1_4, sub1_5, sub1_6, sub1_7, sub1_8, Int.toNat_zero, Int.toNat_one, true_and, and_true, if_true, if_false, Nat.zero_add, Nat.add_zero, implies_true, Bool.true_and, Bool.and_true, Bool.false_eq_true, Nat.reduceEqDiff, Nat.reduceAdd, Nat.reduceMul, Nat.reduceLeDiff, Nat.reduceLT, Nat.reduceBEq, Bool.or_false, Bool.false_or, Bool.true_or, Bool.or_true, Bool.false_and, Bool.and_false, beq_self_eq_true, Nat.zero_lt_succ, List.zip_nil_left, List.zip_nil_right, Int.toNat_natCast, reduceCtorEq, imp_self, ne_eq, not_false_eq_true, beq_iff_eq, forall_const, true_implies] | refine CallR_of (by first | exact h0 | exact CallOK.le (h0) (by simp [argsLe, aLe, csLe, cLe])) ?_ | refine CallRG_of (fun hg => by first | exact h0 | exact CallOK.le (h0) (by simp [argsLe, aLe, csLe, cLe])) rfl ?_ | with_reducible refine CondR_tt ?_ | with_reducible refine CondR_ff ?_ | refine CondR_of (fun hb => ?_) (fun hb => ?_) | (refine And.intro ?_ ?_; focus ((try with_reducible refine GIm_of ?_); first | (with_reducible rfl) | (show _ = List.range _; rfl) | (show ordB _ = true; kernel_rfl) | (show chkFP _ _ = true; kernel_rfl) | (intros; omega) | (intro q1 q2; rw [q1, q2]; rfl) | (intro q1; rw [q1]; rfl) | (intro q; simp only [Bool.and_eq_true, decide_eq_true_eq, beq_iff_eq] at q; omega) | (intros; simp_all; done) | (intros; simp [List.range, List.range.loop]; done) | (intros; simp_all [List.range, List.range.loop]; done))) | refine And.intro (fun hg => ?_) (fun hg => ?_) | fail)
  · obtain ⟨p0, ps', hps⟩ : ∃ p0 ps', ps = p0 :: ps' := by
      cases ps with
      | nil => simp at hb
      | cons a b => exact ⟨a, b, rfl⟩
    have hp0 : p0.ok := hpk p0 (by rw [hps]; simp)
    have ht6 : (List.map C.d (promisesE ps)).take 6 = p0.enc.map C.d := by rw [hps]; rfl
    obtain ⟨qs, hqs⟩ : ∃ qs, qs = ps ++ [p0] := ⟨_, rfl⟩
    have hq : promisesE ps ++ p0.enc = promisesE qs := by rw [hqs, promisesE_snoc]
    have hn : ps.length + 1 = qs.length := by rw [hqs, List.length_append, List.length_singleton]
    obtain ⟨k1, k2, k3⟩ := key qs (by omega) (fun p hp => by
      rw [hqs] at hp
      rcases List.mem_append.1 hp with hp | hp
      · exact hpk p hp
      · rw [List.mem_singleton] at hp; subst hp; exact hp0)
    rw [makeR_eq] at k2
    generalize makeP qs = mp at k1 k2 k3
    simp only [Plan.rf] at k1 k2
    refine ⟨⟨Nat.zero_le _, by rw [promises_len, hps, List.length_cons]; omega⟩, ?_⟩
    clear key hb h0
    repeat' (first | rw [SeqQ_normal] | rw [awp_seq] | simp only [pk0, pk1, pk2, pk3, pk4, pk5, pk6, pk7, pe0, pe1, TyB, BlkQ_normal, BlkQ_exit, BlkQ_ret, SeqQ_exit, SeqQ_ret, RndQ_normal, RndQ_exit, RndQ_ret, List.length_cons, List.length_nil, Nat.reduceSub, ht6, hq, hn, sub0, Nat.sub_zero, reqs_take, votes_take, promises_take, batches_take, Int.reduceEq, Bool.true_beq, Bool.false_beq, toDs_map, sub_map, Nat.zero_mul, Nat.one_mul, Nat.mul_one, List.drop_zero, List.length_map, sub1_1, sub1_2, sub1_3, sub1_4, sub1_5, sub1_6, sub1_7, sub1_8, Int.toNat_zero, Int.toNat_one, true_and, and_true, if_true, if_false, Nat.zero_add, Nat.add_zero, implies_true, Bool.true_and, Bool.and_true, Bool.false_eq_true, Nat.reduceEqDiff, Nat.reduceAdd, Nat.reduceMul, Nat.reduceLeDiff, Nat.reduceLT, Nat.reduceBEq, Bool.or_false, Bool.false_or, Bool.true_or, Bool.or_true, Bool.false_and, Bool.and_false, beq_self_eq_true, Nat.zero_lt_succ, List.zip_nil_left, List.zip_nil_right, Int.toNat_natCast, reduceCtorEq, imp_self, ne_eq, not_false_eq_true, beq_iff_eq, forall_const, true_implies] | refine CallR_of (by first | exact k1 | exact k2 | exact k3 | exact awake_ok | exact CallOK.le (k1) (by simp [argsLe, aLe, csLe, cLe]) | exact CallOK.le (k2) (by simp [argsLe, aLe, csLe, cLe]) | exact CallOK.le (k3) (by simp [argsLe, aLe, csLe, cLe]) | exact CallOK.le (awake_ok) (by simp [argsLe, aLe, csLe, cLe])) ?_ | refine CallRG_of (fun hg => by first | exact k1 | exact k2 | exact k3 | exact awake_ok | exact CallOK.le (k1) (by simp [argsLe, aLe, csLe, cLe]) | exact CallOK.le (k2) (by simp [argsLe, aLe, csLe, cLe]) | exact CallOK.le (k3) (by simp [argsLe, aLe, csLe, cLe]) | exact CallOK.le (awake_ok) (by simp [argsLe, aLe, csLe, cLe])) rfl ?_ | with_reducible refine CondR_tt ?_ | with_reducible refine CondR_ff ?_ | refine CondR_of (fun hb => ?_) (fun hb => ?_) | (refine And.intro ?_ ?_; focus ((try with_reducible refine GIm_of ?_); first | (with_reducible rfl) | (show _ = List.range _; rfl) | (show ordB _ = true; kernel_rfl) | (show chkFP _ _ = true; kernel_rfl) | (intros; omega) | (intro q1 q2; rw [q1, q2]; rfl) | (intro q1; rw [q1]; rfl) | (intro q; simp only [Bool.and_eq_true, decide_eq_true_eq, beq_iff_eq] at q; omega) | (intros; simp_all; done) | (intros; simp [List.range, List.range.loop]; done) | (intros; simp_all [List.range, List.range.loop]; done))) | refine And.intro (fun hg => ?_) (fun hg => ?_) | fail)
  · obtain ⟨k1, k2, k3⟩ := key ps (by omega) hpk
    rw [makeR_eq] at k2
    generalize makeP ps = mp at k1 k2 k3
    simp only [Plan.rf] at k1 k2
    clear key hb h0
    repeat' (first | rw [SeqQ_normal] | rw [awp_seq] | simp only [pk0, pk1, pk2, pk3, pk4, pk5, pk6, pk7, pe0, pe1, TyB, BlkQ_normal, BlkQ_exit, BlkQ_ret, SeqQ_exit, SeqQ_ret, RndQ_normal, RndQ_exit, RndQ_ret, List.length_cons, List.length_nil, Nat.reduceSub, sub0, Nat.sub_zero, reqs_take, votes_take, promises_take, batches_take, Int.reduceEq, Bool.true_beq, Bool.false_beq, toDs_map, sub_map, Nat.zero_mul, Nat.one_mul, Nat.mul_one, List.drop_zero, List.length_map, sub1_1, sub1_2, sub1_3, sub1_4, sub1_5, sub1_6, sub1_7, sub1_8, Int.toNat_zero, Int.toNat_one, true_and, and_true, if_true, if_false, Nat.zero_add, Nat.add_zero, implies_true, Bool.true_and, Bool.and_true, Bool.false_eq_true, Nat.reduceEqDiff, Nat.reduceAdd, Nat.reduceMul, Nat.reduceLeDiff, Nat.reduceLT, Nat.reduceBEq, Bool.or_false, Bool.false_or, Bool.true_or, Bool.or_true, Bool.false_and, Bool.and_false, beq_self_eq_true, Nat.zero_lt_succ, List.zip_nil_left, List.zip_nil_right, Int.toNat_natCast, reduceCtorEq, imp_self, ne_eq, not_false_eq_true, beq_iff_eq, forall_const, true_implies] | refine CallR_of (by first | exact k1 | exact k2 | exact k3 | exact awake_ok | exact CallOK.le (k1) (by simp [argsLe, aLe, csLe, cLe]) | exact CallOK.le (k2) (by simp [argsLe, aLe, csLe, cLe]) | exact CallOK.le (k3) (by simp [argsLe, aLe, csLe, cLe]) | exact CallOK.le (awake_ok) (by simp [argsLe, aLe, csLe, cLe])) ?_ | refine CallRG_of (fun hg => by first | exact k1 | exact k2 | exact k3 | exact awake_ok | exact CallOK.le (k1) (by simp [argsLe, aLe, csLe, cLe]) | exact CallOK.le (k2) (by simp [argsLe, aLe, csLe, cLe]) | exact CallOK.le (k3) (by simp [argsLe, aLe, csLe, cLe]) | exact CallOK.le (awake_ok) (by simp [argsLe, aLe, csLe, cLe])) rfl ?_ | with_reducible refine CondR_tt ?_ | with_reducible refine CondR_ff ?_ | refine CondR_of (fun hb => ?_) (fun hb => ?_) | (refine And.intro ?_ ?_; focus ((try with_reducible refine GIm_of ?_); first | (with_reducible rfl) | (show _ = List.range _; rfl) | (show ordB _ = true; kernel_rfl) | (show chkFP _ _ = true; kernel_rfl) | (intros; omega) | (intro q1 q2; rw [q1, q2]; rfl) | (intro q1; rw [q1]; rfl) | (intro q; simp only [Bool.and_eq_true, decide_eq_true_eq, beq_iff_eq] at q; omega) | (intros; simp_all; done) | (intros; simp [List.range, List.range.loop]; done) | (intros; simp_all [List.range, List.range.loop]; done))) | refine And.intro (fun hg => ?_) (fun hg => ?_) | fail)
end Go.Proofs.Ythlolabfogklgaa

