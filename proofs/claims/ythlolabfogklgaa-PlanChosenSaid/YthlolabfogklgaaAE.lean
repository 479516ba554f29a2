/- PlanChosen: the contract, as a whole. -/
import Derived.Test.YthlolabfogklgaaAD
import Derived.Test.YthlolabfogklgaaK6
namespace Go.Proofs.Ythlolabfogklgaa
open Go.Pk
set_option maxRecDepth 100000
set_option linter.unusedSimpArgs false
set_option linter.unusedVariables false
theorem set_votes : ∀ {l : List Prom} {i : Nat} (hi : i < l.length) {vs : List Vote}, ((promisesE l).map C.d).set (i * 6 + 5) (.d (.sl vs.length (votesE vs))) = (promisesE (l.set i { l[i] with votes := vs })).map C.d
  | p :: l, 0, _, vs => by simp [promisesE, Prom.enc]
  | p :: l, i + 1, hi, vs => by
    have := set_votes (l := l) (i := i) (by simpa using hi) (vs := vs)
    have e : (promisesE (p :: l)).map C.d = p.enc.map C.d ++ (promisesE l).map C.d := by simp [promisesE]
    rw [e, List.set_append_right _ _ (by simp; omega), show (i + 1) * 6 + 5 - (List.map C.d p.enc).length = i * 6 + 5 by simp; omega, this]
    simp [promisesE]
theorem modP_ok {v : Vote} {b : Bool} {p : Prom} (hv : v.ok) (hp : p.ok) (h9 : p.votes.length ≤ 9) : (modP v b p).ok := by
  unfold modP
  split
  · obtain ⟨h1, h2, h3, h4, h5, h6, h7⟩ := hp
    have hl := withP_len (v := v) (l := p.votes) (put := false)
    simp only [Bool.false_eq_true, if_false] at hl
    refine ⟨h1, h2, h3, h4, h5, by simp only; omega, fun u hu => ?_⟩
    rcases withP_mem hu with rfl | ⟨h, _⟩
    · exact hv
    · exact h7 u h
  · exact hp
def kOf (n : Int) : Nat := if m8 n 3 = 0 then 3 else if m8 n 3 = 1 then 5 else 7
theorem kOf_of (n : Int) : kOf n ≤ 7 ∧ 3 ≤ kOf n := by unfold kOf; split <;> (try split) <;> omega
theorem drop_mor {α : Type} {l : List α} {n : Nat} {r : List α} (k : Nat) (h : l.drop n = r) : l.drop (n + k) = r.drop k := by rw [← h, List.drop_drop]
theorem LoopR_gh {T : Nat → Option TI} {P : Program} {x : Code} {g g' : G} {Q : Ex → G → Prop} (h : Gh g g') (hl : LoopR T P x g' Q) : LoopR T P x g Q := by
  obtain ⟨I, n0, ⟨g0, h1, h2⟩, h3⟩ := hl
  exact ⟨I, n0, ⟨g0, h.trans h1, h2⟩, h3⟩
theorem wrapU64 {n : Nat} (h : n < 100) : IntKind.u64.wrap (n : Int) = n := by
  unfold IntKind.wrap
  simp [IntKind.signed, IntKind.bits]
  omega
theorem votesB_bal {d : Int} {l : List NVote} : ∀ (n s : Nat) (acc : List Vote), (∀ v ∈ acc, v.ballot < 9) → ∀ v ∈ votesB d l acc n s, v.ballot < 9
  | 0, s, acc, h => by simpa [votesB] using h
  | n + 1, s, acc, h => by
    rw [votesB]
    cases l.find? (voteAt s) with
    | none => exact votesB_bal n (s + 1) acc h
    | some v =>
      refine votesB_bal n (s + 1) _ fun u hu => ?_
      rcases List.mem_append.1 hu with hu | hu
      · exact h u hu
      · rw [List.mem_singleton] at hu
        subst hu
        exact (m8_lt (by decide)).2
theorem promsB_bal : ∀ {l : List NTold} {i : Nat}, ∀ p ∈ promsB i l, ∀ v ∈ p.votes, v.ballot < 9
  | [], _, p, h => by cases h
  | t :: l, i, p, h => by
    rcases List.mem_cons.1 h with rfl | h
    · exact votesB_bal 9 1 [] (fun v hv => by cases hv)
    · exact promsB_bal p h
set_option maxHeartbeats 4000000 in
theorem planChosen_of (l : List NTold) (n sl ba : Int) (ns : List Int) (vo ak : Int) (hl : l.length < 2 ^ 60) (hok : ∀ t ∈ l, t.ok) (hn : u8 n) (hs : u8 sl) (hba : u8 ba) (hns : ns.length < 2 ^ 60) (hns8 : ∀ x ∈ ns, u8 x) (hvo : u8 vo) (hak : u8 ak) :
    CallOK Try.prog 6 [.f (al l.length (ntoldE l)), .f (ru n), .f (ru sl), .f (ru ba), .f (al ns.length (bytesE ns)), .f (ru vo), .f (ru ak)] (fun r o => r = [rb true] ∧ o = []) := by
  have h0 := promises_ok4 l hl hok
  have hlen : (promsB 0 (l.take 7)).length ≤ 7 := by rw [promsB_len, List.length_take]; omega
  have hpk : ∀ p ∈ promsB 0 (l.take 7), p.ok := promsB_ok (by rw [List.length_take]; omega) fun t ht => hok t (List.mem_of_mem_take ht)
  have hpn : ((promsB 0 (l.take 7)).map Prom.src).Nodup := promsB_src.2
  have hpm : ∀ p ∈ promsB 0 (l.take 7), Prom.may p = true := promsB_may (by rw [List.length_take]; omega) fun t ht => hok t (List.mem_of_mem_take ht)
  have hpb : ∀ p ∈ promsB 0 (l.take 7), ∀ v ∈ p.votes, v.ballot < 9 := promsB_bal
  generalize promsB 0 (l.take 7) = ps at h0 hlen hpk hpn hpm hpb
  have hbo := batch_ok4 ns hns hns8
  obtain ⟨hbok, _⟩ := batchB_ok hns8
  generalize batchB ns = x at hbo hbok
  obtain ⟨hk7, hk3⟩ := kOf_of n
  have hn3 : n.tmod 3 = m8 n 3 := tmod_nat hn (m := 3) (by decide)
  have hld : List.drop (m8 n 3).toNat [C.d (.v (.int .i64 3)), C.d (.v (.int .i64 5)), C.d (.v (.int .i64 7))] = C.d (.v (.int .i64 (kOf n))) :: List.drop ((m8 n 3).toNat + 1) [C.d (.v (.int .i64 3)), C.d (.v (.int .i64 5)), C.d (.v (.int .i64 7))] := by
    have := m8_lt (x := n) (m := 3) (by decide)
    have h3 : m8 n 3 = 0 ∨ m8 n 3 = 1 ∨ m8 n 3 = 2 := by omega
    unfold kOf
    rcases h3 with h | h | h <;> rw [h] <;> rfl
  have hm3 := m8_lt (x := n) (m := 3) (by decide)
  generalize kOf n = k at hk7 hk3 hld
  have w2 := u8w hs
  have w3 := u8w hba
  have e9 : sl.tmod 9 = m8 sl 9 := tmod_nat hs (m := 9) (by decide)
  have hm9 := m8_lt (x := sl) (m := 9) (by decide)
  have hw1 : IntKind.i64.wrap (1 + m8 sl 9) = 1 + m8 sl 9 := wrap64 (by omega) (by omega)
  have hw9 : IntKind.i64.wrap (9 + ba) = 9 + ba := wrap64 (by have := hba.1; omega) (by have := hba.2; omega)
  refine callOK_of TOKTy mixed (T := Ty) (n := 157) Try.func6 (c := Try.f6.body.getD .skip) rfl Try.results6 Try.ntmps6 Try.call6 ?_
  simp only [Try.f6, Option.getD]
  repeat' (first | rw [SeqQ_normal] | rw [awp_seq] | simp only [pk0, pk1, pk2, pk3, pk4, pk5, pk6, pk7, pe0, pe1, TyB, BlkQ_normal, BlkQ_exit, BlkQ_ret, SeqQ_exit, SeqQ_ret, RndQ_normal, RndQ_exit, RndQ_ret, List.length_cons, List.length_nil, Nat.reduceSub, hn3, hld, w2, w3, e9, hw1, hw9, sub0, Nat.sub_zero, reqs_take, votes_take, promises_take, batches_take, Int.reduceEq, Bool.true_beq, Bool.false_beq, toDs_map, sub_map, Nat.zero_mul, Nat.one_mul, Nat.mul_one, List.drop_zero, List.length_map, sub1_1, sub1_2, sub1_3, sub1_4, sub1_5, sub1_6, sub1_7, sub1_8, Int.toNat_zero, Int.toNat_one, true_and, and_true, if_true, if_false, Nat.zero_add, Nat.add_zero, implies_true, Bool.true_and, Bool.and_true, Bool.false_eq_true, Nat.reduceEqDiff, Nat.reduceAdd, Nat.reduceMul, Nat.reduceLeDiff, Nat.reduceLT, Nat.reduceBEq, Bool.or_false, Bool.false_or, Bool.true_or, Bool.or_true, Bool.false_and, Bool.and_false, beq_self_eq_true, Nat.zero_lt_succ, List.zip_nil_left, List.zip_nil_right, Int.toNat_natCast, reduceCtorEq, imp_self, ne_eq, not_false_eq_true, beq_iff_eq, forall_const, true_implies] | refine CallR_of (by first | exact h0 | exact awake_ok | exact hbo | exact CallOK.le (h0) (by simp [argsLe, aLe, csLe, cLe]) | exact CallOK.le (awake_ok) (by simp [argsLe, aLe, csLe, cLe]) | exact CallOK.le (hbo) (by simp [argsLe, aLe, csLe, cLe])) ?_ | refine CallRG_of (fun hg => by first | exact h0 | exact awake_ok | exact hbo | exact CallOK.le (h0) (by simp [argsLe, aLe, csLe, cLe]) | exact CallOK.le (awake_ok) (by simp [argsLe, aLe, csLe, cLe]) | exact CallOK.le (hbo) (by simp [argsLe, aLe, csLe, cLe])) rfl ?_ | with_reducible refine CondR_tt ?_ | with_reducible refine CondR_ff ?_ | refine CondR_of (fun hb => ?_) (fun hb => ?_) | (refine And.intro ?_ ?_; focus ((try with_reducible refine GIm_of ?_); first | (with_reducible rfl) | (show _ = List.range _; rfl) | (show ordB _ = true; kernel_rfl) | (show chkFP _ _ = true; kernel_rfl) | (intros; omega) | (intro q1 q2; rw [q1, q2]; rfl) | (intro q1; rw [q1]; rfl) | (intro q; simp only [Bool.and_eq_true, decide_eq_true_eq, beq_iff_eq] at q; omega) | (intros; simp_all; done) | (intros; simp [List.range, List.range.loop]; done) | (intros; simp_all [List.range, List.range.loop]; done))) | refine And.intro (fun hg => ?_) (fun hg => ?_) | fail)
  have hkl : k ≤ ps.length := by simp at hb; omega
  obtain ⟨v, hv⟩ : ∃ v : Vote, v = ⟨1 + m8 sl 9, 9 + ba, x⟩ := ⟨_, rfl⟩
  have hvs : v.slot = 1 + m8 sl 9 := by rw [hv]
  have hvb : v.ballot = 9 + ba := by rw [hv]
  have hvx : v.batch = x := by rw [hv]
  refine LoopR_gh (Gh.sealF 19 5 (.own ⟨19, 6, 6⟩ 0 x.reqs.length) ?_) ?_
  · simp only [pk0, pk1, pk2, pk3, pk4, pk5, pk6, pk7, pe0, pe1, TyB, BlkQ_normal, BlkQ_exit, BlkQ_ret, SeqQ_exit, SeqQ_ret, RndQ_normal, RndQ_exit, RndQ_ret, List.length_cons, List.length_nil, Nat.reduceSub, sealFOK, sub_map, toDs_map, Nat.zero_mul, List.drop_zero, reqs_take, true_and, and_true, if_true, if_false, Nat.zero_add, Nat.add_zero, implies_true, Bool.true_and, Bool.and_true, Bool.false_eq_true, Nat.reduceEqDiff, Nat.reduceAdd, Nat.reduceMul, Nat.reduceLeDiff, Nat.reduceLT, Nat.reduceBEq, Bool.or_false, Bool.false_or, Bool.true_or, Bool.or_true, Bool.false_and, Bool.and_false, beq_self_eq_true, Nat.zero_lt_succ, List.zip_nil_left, List.zip_nil_right, Int.toNat_natCast, reduceCtorEq, imp_self, ne_eq, not_false_eq_true, beq_iff_eq, forall_const, true_implies]
  simp only [pk0, pk1, pk2, pk3, pk4, pk5, pk6, pk7, pe0, pe1, TyB, BlkQ_normal, BlkQ_exit, BlkQ_ret, SeqQ_exit, SeqQ_ret, RndQ_normal, RndQ_exit, RndQ_ret, List.length_cons, List.length_nil, Nat.reduceSub, sealFR, sub_map, toDs_map, Nat.zero_mul, List.drop_zero, reqs_take, true_and, and_true, if_true, if_false, Nat.zero_add, Nat.add_zero, implies_true, Bool.true_and, Bool.and_true, Bool.false_eq_true, Nat.reduceEqDiff, Nat.reduceAdd, Nat.reduceMul, Nat.reduceLeDiff, Nat.reduceLT, Nat.reduceBEq, Bool.or_false, Bool.false_or, Bool.true_or, Bool.or_true, Bool.false_and, Bool.and_false, beq_self_eq_true, Nat.zero_lt_succ, List.zip_nil_left, List.zip_nil_right, Int.toNat_natCast, reduceCtorEq, imp_self, ne_eq, not_false_eq_true, beq_iff_eq, forall_const, true_implies]
  refine LoopR_fn (τ := Nat) (fun t => ⟨[dd, dd, dd, dd, dd, ru vo, ru ak, dd, dd, dd, dd, dd, dd, dd, dd, ai k, .one (.own ⟨16, 1, 1⟩ 0 k), ai (1 + m8 sl 9), ai (9 + ba), .one (.ptr ⟨19, 0, 1⟩ 0), ai (cntB vo t), .one (.own ⟨21, 1, 1⟩ 0 (quoP v vo ak ps t).length), ai t, dd, dd, dd, dd, dd, dd, dd, dd, dd, dd, dd, dd, dd, dd, dd, dd, dd, dd, dd, dd, dd, dd, dd, dd, dd, dd, dd, dd, dd, dd, dd, dd, dd, dd, dd, dd, dd, dd, dd, dd, dd, dd, dd, dd, dd, dd, dd, dd, dd, dd, dd, dd, dd, dd, dd, dd, dd, dd, dd, dd, dd, dd, dd, dd, dd, dd, dd, dd, dd, dd, dd, dd, dd, dd, dd, dd, dd, dd, dd, dd, dd, dd, dd, dd, dd, dd, dd, dd, dd, dd, dd, dd, dd, dd, dd, dd, dd, dd, dd, dd, dd, dd, dd, dd, dd, dd, dd, dd, dd, dd, dd, dd, dd, dd, dd, dd, dd, dd, dd, dd, dd, dd, dd, dd, dd, dd, dd, dd, dd, dd, dd, dd, dd, dd],
      [(26, ⟨2, []⟩), (32, ⟨2, []⟩), (16, { next := 2, l := [none, some { e := 1, var := false, fz := false, sz := 6, cells := (promisesE (curP v vo ps t)).map C.d }] }), (49, ⟨2, []⟩), (19, { next := 2, l := [some { e := 1, var := true, fz := false, sz := 0, cells := [db x.fill, di x.view, di x.tip.view, di x.tip.slot, di x.time, .d (.sl x.reqs.length (reqsE x.reqs))] }, none, none, none, none, none, some { e := 1, var := false, fz := true, sz := 5, cells := (reqsE x.reqs).map C.d }] }), (21, { next := 2, l := [none, some { e := 1, var := false, fz := false, sz := 6, cells := (promisesE (quoP v vo ak ps t)).map C.d }] }), (81, ⟨2, []⟩), (95, ⟨2, []⟩)]⟩)
    (fun t => t ≤ k) (fun _ => ()) (fun t => k - t) 0
    ((Gh.nil (i := 21) (s := 21) (sz := 6) rfl).trans (Gh.canon [16, 19, 21] [81, 95] [] (by simp only [fgc_dead, fgc_dv, fgc_lent, fgc_nil, fgc_ptr, fgc_own, List.set_cons_zero, List.set_cons_succ, and_true, true_and, Int.natCast_zero, Int.cast_ofNat_Int, D.v.injEq, Value.int.injEq]; try (repeat' (first | rfl | omega | with_reducible apply And.intro))) rfl (by rw [curP_zero]; rfl))) (Nat.zero_le _) ?_
  intro i hi0 hF K hK
  simp only at hi0 hF hK ⊢
  repeat (first | rw [SeqQ_normal] | rw [awp_seq] | simp only [pk0, pk1, pk2, pk3, pk4, pk5, pk6, pk7, pe0, pe1, TyB, BlkQ_normal, BlkQ_exit, BlkQ_ret, SeqQ_exit, SeqQ_ret, RndQ_normal, RndQ_exit, RndQ_ret, List.length_cons, List.length_nil, Nat.reduceSub,  true_and, and_true, if_true, if_false, Nat.zero_add, Nat.add_zero, implies_true, Bool.true_and, Bool.and_true, Bool.false_eq_true, Nat.reduceEqDiff, Nat.reduceAdd, Nat.reduceMul, Nat.reduceLeDiff, Nat.reduceLT, Nat.reduceBEq, Bool.or_false, Bool.false_or, Bool.true_or, Bool.or_true, Bool.false_and, Bool.and_false, beq_self_eq_true, Nat.zero_lt_succ, List.zip_nil_left, List.zip_nil_right, Int.toNat_natCast, reduceCtorEq, imp_self, ne_eq, not_false_eq_true, beq_iff_eq, forall_const, true_implies])
  refine CondR_of (fun hlt => ?_) (fun hge => ?_)
  · have hi : i < k := by simpa using hlt
    have hip : i < ps.length := by omega
    have hU : IntKind.u64.wrap (i : Int) = i := wrapU64 (by omega)
    have hw := i64_succ hip (by omega)
    have hkq := quoP_len (v := v) (w := vo) (a := ak) (ps := ps) (i := i) (by omega)
    have hq9 := cntB_le (w := ak) (i := i)
    have hw9' := cntB_le (w := vo) (i := i)
    have hcs := curP_succ (v := v) (w := vo) hip
    have hqs := quoP_succ (v := v) (w := vo) (a := ak) hip
    have hns1 := cntB_succ (w := vo) (i := i)
    have hcl : (curP v vo ps i).length = ps.length := curP_len
    have hci : (curP v vo ps i)[i]? = some ps[i] := by rw [curP_at hip, if_neg (by omega)]
    have hmp := may_of (hpm _ (List.getElem_mem hip))
    have hcn : IntKind.i64.wrap ((cntB vo i : Int) + 1) = ((cntB vo i + 1 : Nat) : Int) := by rw [wrap64 (by omega) (by omega)]; rfl
    obtain ⟨p, hp⟩ : ∃ p, p = ps[i] := ⟨_, rfl⟩
    rw [← hp] at hcs hqs hci hmp
    generalize curP v vo ps i = cur at hcs hcl hci
    generalize quoP v vo ak ps i = q at hqs hkq
    have hic : i < cur.length := by omega
    have hci' : cur[i] = p := by rw [List.getElem?_eq_getElem hic] at hci; simpa using hci
    have hat := promises_at hic
    rw [hci'] at hat
    simp only [List.cons_append, List.nil_append] at hat
    have hat1 := drop_mor 1 hat
    have hat5 := drop_mor 5 hat
    simp only [List.drop_succ_cons, List.drop_zero] at hat1 hat5
    have hwc := with_ok p.votes v (by have := hmp.len; omega)
    simp only [hvs, hvb, hvx, List.map_cons, List.map_nil, List.cons_append, List.nil_append, List.map_append] at hwc
    have hset := set_votes hic (vs := withP v false p.votes)
    rw [hci'] at hset
    have hn0 : ∀ (a b : Option Value), (if (i : Int) < 0 then a else b) = b := fun a b => if_neg (by omega)
    cases hb1 : bitAt vo i
    · have hmo : modP v false p = p := by unfold modP; rw [if_neg (by simp)]
      rw [hb1, hmo] at hcs hqs
      rw [hb1, if_neg (by simp), Nat.add_zero] at hns1
      have hcc : cur = curP v vo ps (i + 1) := by rw [hcs, ← hci', List.set_getElem_self]
      clear hset hcs
      subst hcc
      have hb1' := hb1
      cases hb2 : bitAt ak i
      · rw [hb2, if_neg (by simp)] at hqs
        have hb2' := hb2
        unfold bitAt at hb1' hb2'
        subst hqs
        repeat' (first | rw [SeqQ_normal] | rw [awp_seq] | simp only [pk0, pk1, pk2, pk3, pk4, pk5, pk6, pk7, pe0, pe1, TyB, BlkQ_normal, BlkQ_exit, BlkQ_ret, SeqQ_exit, SeqQ_ret, RndQ_normal, RndQ_exit, RndQ_ret, List.length_cons, List.length_nil, Nat.reduceSub, hn0, hU, hb1', hb2', ← List.map_drop, hat, hat1, hat5, List.map_cons, promises_len, hcn, sub0, Nat.sub_zero, reqs_take, votes_take, promises_take, batches_take, Int.reduceEq, Bool.true_beq, Bool.false_beq, toDs_map, sub_map, Nat.zero_mul, Nat.one_mul, Nat.mul_one, List.drop_zero, List.length_map, sub1_1, sub1_2, sub1_3, sub1_4, sub1_5, sub1_6, sub1_7, sub1_8, Int.toNat_zero, Int.toNat_one, true_and, and_true, if_true, if_false, Nat.zero_add, Nat.add_zero, implies_true, Bool.true_and, Bool.and_true, Bool.false_eq_true, Nat.reduceEqDiff, Nat.reduceAdd, Nat.reduceMul, Nat.reduceLeDiff, Nat.reduceLT, Nat.reduceBEq, Bool.or_false, Bool.false_or, Bool.true_or, Bool.or_true, Bool.false_and, Bool.and_false, beq_self_eq_true, Nat.zero_lt_succ, List.zip_nil_left, List.zip_nil_right, Int.toNat_natCast, reduceCtorEq, imp_self, ne_eq, not_false_eq_true, beq_iff_eq, forall_const, true_implies] | refine CallR_of (by first | exact hwc | exact CallOK.le (hwc) (by simp [argsLe, aLe, csLe, cLe])) ?_ | refine CallRG_of (fun hg => by first | exact hwc | exact CallOK.le (hwc) (by simp [argsLe, aLe, csLe, cLe])) rfl ?_ | with_reducible refine CondR_tt ?_ | with_reducible refine CondR_ff ?_ | refine CondR_of (fun hb => ?_) (fun hb => ?_) | (refine And.intro ?_ ?_; focus ((try with_reducible refine GIm_of ?_); first | (with_reducible rfl) | (show _ = List.range _; rfl) | (show ordB _ = true; kernel_rfl) | (show chkFP _ _ = true; kernel_rfl) | (intros; omega) | (intro q1 q2; rw [q1, q2]; rfl) | (intro q1; rw [q1]; rfl) | (intro q; simp only [Bool.and_eq_true, decide_eq_true_eq, beq_iff_eq] at q; omega) | (intros; simp_all; done) | (intros; simp [List.range, List.range.loop]; done) | (intros; simp_all [List.range, List.range.loop]; done))) | refine And.intro (fun hg => ?_) (fun hg => ?_) | fail)
        refine hK _ (i + 1) (Gh.canon [16, 19, 21] [] [] (by simp only [hw, fgc_dead, fgc_dv, fgc_lent, fgc_nil, fgc_ptr, fgc_own, List.set_cons_zero, List.set_cons_succ, and_true, true_and, Int.natCast_zero, Int.cast_ofNat_Int, D.v.injEq, Value.int.injEq]; try (repeat' (first | rfl | omega | with_reducible apply And.intro))) rfl rfl) hi trivial (by omega)
      · rw [hb2, if_pos rfl] at hqs
        have hb2' := hb2
        unfold bitAt at hb1' hb2'
        have hqa : promisesE q ++ p.enc = promisesE (quoP v vo ak ps (i + 1)) := by rw [hqs, promisesE_snoc]
        have hql : q.length + 1 = (quoP v vo ak ps (i + 1)).length := by rw [hqs, List.length_append, List.length_singleton]
        simp only [Prom.enc] at hqa
        clear hqs
        repeat' (first | rw [SeqQ_normal] | rw [awp_seq] | simp only [pk0, pk1, pk2, pk3, pk4, pk5, pk6, pk7, pe0, pe1, TyB, BlkQ_normal, BlkQ_exit, BlkQ_ret, SeqQ_exit, SeqQ_ret, RndQ_normal, RndQ_exit, RndQ_ret, List.length_cons, List.length_nil, Nat.reduceSub, hn0, hU, hb1', hb2', ← List.map_drop, hat, hat1, hat5,  List.map_cons, promises_len, hqa, hql, hcn, sub0, Nat.sub_zero, reqs_take, votes_take, promises_take, batches_take, Int.reduceEq, Bool.true_beq, Bool.false_beq, toDs_map, sub_map, Nat.zero_mul, Nat.one_mul, Nat.mul_one, List.drop_zero, List.length_map, sub1_1, sub1_2, sub1_3, sub1_4, sub1_5, sub1_6, sub1_7, sub1_8, Int.toNat_zero, Int.toNat_one, true_and, and_true, if_true, if_false, Nat.zero_add, Nat.add_zero, implies_true, Bool.true_and, Bool.and_true, Bool.false_eq_true, Nat.reduceEqDiff, Nat.reduceAdd, Nat.reduceMul, Nat.reduceLeDiff, Nat.reduceLT, Nat.reduceBEq, Bool.or_false, Bool.false_or, Bool.true_or, Bool.or_true, Bool.false_and, Bool.and_false, beq_self_eq_true, Nat.zero_lt_succ, List.zip_nil_left, List.zip_nil_right, Int.toNat_natCast, reduceCtorEq, imp_self, ne_eq, not_false_eq_true, beq_iff_eq, forall_const, true_implies] | refine CallR_of (by first | exact hwc | exact CallOK.le (hwc) (by simp [argsLe, aLe, csLe, cLe])) ?_ | refine CallRG_of (fun hg => by first | exact hwc | exact CallOK.le (hwc) (by simp [argsLe, aLe, csLe, cLe])) rfl ?_ | with_reducible refine CondR_tt ?_ | with_reducible refine CondR_ff ?_ | refine CondR_of (fun hb => ?_) (fun hb => ?_) | (refine And.intro ?_ ?_; focus ((try with_reducible refine GIm_of ?_); first | (with_reducible rfl) | (show _ = List.range _; rfl) | (show ordB _ = true; kernel_rfl) | (show chkFP _ _ = true; kernel_rfl) | (intros; omega) | (intro q1 q2; rw [q1, q2]; rfl) | (intro q1; rw [q1]; rfl) | (intro q; simp only [Bool.and_eq_true, decide_eq_true_eq, beq_iff_eq] at q; omega) | (intros; simp_all; done) | (intros; simp [List.range, List.range.loop]; done) | (intros; simp_all [List.range, List.range.loop]; done))) | refine And.intro (fun hg => ?_) (fun hg => ?_) | fail)
        refine hK _ (i + 1) (Gh.canon [16, 19, 21] [] [] (by simp only [hw, fgc_dead, fgc_dv, fgc_lent, fgc_nil, fgc_ptr, fgc_own, List.set_cons_zero, List.set_cons_succ, and_true, true_and, Int.natCast_zero, Int.cast_ofNat_Int, D.v.injEq, Value.int.injEq]; try (repeat' (first | rfl | omega | with_reducible apply And.intro))) rfl rfl) hi trivial (by omega)
    · have hb1' := hb1
      rw [hb1, if_pos rfl] at hns1
      by_cases hd : p.done < v.slot
      · have hmo : modP v true p = { p with votes := withP v false p.votes } := by unfold modP; rw [if_pos (by simpa using hd)]
        obtain ⟨pp, hpp⟩ : ∃ x : Prom, x = { p with votes := withP v false p.votes } := ⟨_, rfl⟩
        have hd' := decide_eq_true hd
        rw [← hpp] at hset hmo
        rw [hb1, hmo] at hcs hqs
        rw [hvs] at hd'
        have hcl2 : i < (curP v vo ps (i + 1)).length := by rw [curP_len]; omega
        have hci2 : (curP v vo ps (i + 1))[i] = pp := by simp [hcs]
        have hatn := promises_at hcl2
        rw [hci2] at hatn
        rw [← hcs] at hset
        simp only [hpp, List.cons_append, List.nil_append] at hatn
        have hcl3 : (curP v vo ps (i + 1)).length = ps.length := curP_len
        clear hcs hcl2 hci2
        cases hb2 : bitAt ak i
        · rw [hb2, if_neg (by simp)] at hqs
          have hb2' := hb2
          unfold bitAt at hb1' hb2'
          subst hqs
          repeat' (first | rw [SeqQ_normal] | rw [awp_seq] | simp only [pk0, pk1, pk2, pk3, pk4, pk5, pk6, pk7, pe0, pe1, TyB, BlkQ_normal, BlkQ_exit, BlkQ_ret, SeqQ_exit, SeqQ_ret, RndQ_normal, RndQ_exit, RndQ_ret, List.length_cons, List.length_nil, Nat.reduceSub, hn0, hU, hb1', hb2', ← List.map_drop, hat, hat1, hat5, List.map_cons, promises_len, hcn, hd', hset, sub0, Nat.sub_zero, reqs_take, votes_take, promises_take, batches_take, Int.reduceEq, Bool.true_beq, Bool.false_beq, toDs_map, sub_map, Nat.zero_mul, Nat.one_mul, Nat.mul_one, List.drop_zero, List.length_map, sub1_1, sub1_2, sub1_3, sub1_4, sub1_5, sub1_6, sub1_7, sub1_8, Int.toNat_zero, Int.toNat_one, true_and, and_true, if_true, if_false, Nat.zero_add, Nat.add_zero, implies_true, Bool.true_and, Bool.and_true, Bool.false_eq_true, Nat.reduceEqDiff, Nat.reduceAdd, Nat.reduceMul, Nat.reduceLeDiff, Nat.reduceLT, Nat.reduceBEq, Bool.or_false, Bool.false_or, Bool.true_or, Bool.or_true, Bool.false_and, Bool.and_false, beq_self_eq_true, Nat.zero_lt_succ, List.zip_nil_left, List.zip_nil_right, Int.toNat_natCast, reduceCtorEq, imp_self, ne_eq, not_false_eq_true, beq_iff_eq, forall_const, true_implies] | refine CallR_of (by first | exact hwc | exact CallOK.le (hwc) (by simp [argsLe, aLe, csLe, cLe])) ?_ | refine CallRG_of (fun hg => by first | exact hwc | exact CallOK.le (hwc) (by simp [argsLe, aLe, csLe, cLe])) rfl ?_ | with_reducible refine CondR_tt ?_ | with_reducible refine CondR_ff ?_ | refine CondR_of (fun hb => ?_) (fun hb => ?_) | (refine And.intro ?_ ?_; focus ((try with_reducible refine GIm_of ?_); first | (with_reducible rfl) | (show _ = List.range _; rfl) | (show ordB _ = true; kernel_rfl) | (show chkFP _ _ = true; kernel_rfl) | (intros; omega) | (intro q1 q2; rw [q1, q2]; rfl) | (intro q1; rw [q1]; rfl) | (intro q; simp only [Bool.and_eq_true, decide_eq_true_eq, beq_iff_eq] at q; omega) | (intros; simp_all; done) | (intros; simp [List.range, List.range.loop]; done) | (intros; simp_all [List.range, List.range.loop]; done))) | refine And.intro (fun hg => ?_) (fun hg => ?_) | fail)
          refine hK _ (i + 1) (Gh.canon [16, 19, 21] [] [] (by simp only [hw, fgc_dead, fgc_dv, fgc_lent, fgc_nil, fgc_ptr, fgc_own, List.set_cons_zero, List.set_cons_succ, and_true, true_and, Int.natCast_zero, Int.cast_ofNat_Int, D.v.injEq, Value.int.injEq]; try (repeat' (first | rfl | omega | with_reducible apply And.intro))) rfl rfl) hi trivial (by omega)
        · rw [hb2, if_pos rfl] at hqs
          have hb2' := hb2
          unfold bitAt at hb1' hb2'
          have hqa : promisesE q ++ pp.enc = promisesE (quoP v vo ak ps (i + 1)) := by rw [hqs, promisesE_snoc]
          have hql : q.length + 1 = (quoP v vo ak ps (i + 1)).length := by rw [hqs, List.length_append, List.length_singleton]
          simp only [Prom.enc, hpp] at hqa
          clear hqs
          repeat' (first | rw [SeqQ_normal] | rw [awp_seq] | simp only [pk0, pk1, pk2, pk3, pk4, pk5, pk6, pk7, pe0, pe1, TyB, BlkQ_normal, BlkQ_exit, BlkQ_ret, SeqQ_exit, SeqQ_ret, RndQ_normal, RndQ_exit, RndQ_ret, List.length_cons, List.length_nil, Nat.reduceSub, hn0, hU, hb1', hb2', ← List.map_drop, hat, hat1, hat5, hatn, List.map_cons, promises_len, hqa, hql, hcn, hd', hset, sub0, Nat.sub_zero, reqs_take, votes_take, promises_take, batches_take, Int.reduceEq, Bool.true_beq, Bool.false_beq, toDs_map, sub_map, Nat.zero_mul, Nat.one_mul, Nat.mul_one, List.drop_zero, List.length_map, sub1_1, sub1_2, sub1_3, sub1_4, sub1_5, sub1_6, sub1_7, sub1_8, Int.toNat_zero, Int.toNat_one, true_and, and_true, if_true, if_false, Nat.zero_add, Nat.add_zero, implies_true, Bool.true_and, Bool.and_true, Bool.false_eq_true, Nat.reduceEqDiff, Nat.reduceAdd, Nat.reduceMul, Nat.reduceLeDiff, Nat.reduceLT, Nat.reduceBEq, Bool.or_false, Bool.false_or, Bool.true_or, Bool.or_true, Bool.false_and, Bool.and_false, beq_self_eq_true, Nat.zero_lt_succ, List.zip_nil_left, List.zip_nil_right, Int.toNat_natCast, reduceCtorEq, imp_self, ne_eq, not_false_eq_true, beq_iff_eq, forall_const, true_implies] | refine CallR_of (by first | exact hwc | exact CallOK.le (hwc) (by simp [argsLe, aLe, csLe, cLe])) ?_ | refine CallRG_of (fun hg => by first | exact hwc | exact CallOK.le (hwc) (by simp [argsLe, aLe, csLe, cLe])) rfl ?_ | with_reducible refine CondR_tt ?_ | with_reducible refine CondR_ff ?_ | refine CondR_of (fun hb => ?_) (fun hb => ?_) | (refine And.intro ?_ ?_; focus ((try with_reducible refine GIm_of ?_); first | (with_reducible rfl) | (show _ = List.range _; rfl) | (show ordB _ = true; kernel_rfl) | (show chkFP _ _ = true; kernel_rfl) | (intros; omega) | (intro q1 q2; rw [q1, q2]; rfl) | (intro q1; rw [q1]; rfl) | (intro q; simp only [Bool.and_eq_true, decide_eq_true_eq, beq_iff_eq] at q; omega) | (intros; simp_all; done) | (intros; simp [List.range, List.range.loop]; done) | (intros; simp_all [List.range, List.range.loop]; done))) | refine And.intro (fun hg => ?_) (fun hg => ?_) | fail)
          refine hK _ (i + 1) (Gh.canon [16, 19, 21] [] [] (by simp only [hw, fgc_dead, fgc_dv, fgc_lent, fgc_nil, fgc_ptr, fgc_own, List.set_cons_zero, List.set_cons_succ, and_true, true_and, Int.natCast_zero, Int.cast_ofNat_Int, D.v.injEq, Value.int.injEq]; try (repeat' (first | rfl | omega | with_reducible apply And.intro))) rfl rfl) hi trivial (by omega)
      · have hmo : modP v true p = p := by unfold modP; rw [if_neg (by simpa using hd)]
        have hd' := decide_eq_false hd
        rw [hb1, hmo] at hcs hqs
        rw [hvs] at hd'
        have hcc : cur = curP v vo ps (i + 1) := by rw [hcs, ← hci', List.set_getElem_self]
        clear hset hcs
        subst hcc
        cases hb2 : bitAt ak i
        · rw [hb2, if_neg (by simp)] at hqs
          have hb2' := hb2
          unfold bitAt at hb1' hb2'
          subst hqs
          repeat' (first | rw [SeqQ_normal] | rw [awp_seq] | simp only [pk0, pk1, pk2, pk3, pk4, pk5, pk6, pk7, pe0, pe1, TyB, BlkQ_normal, BlkQ_exit, BlkQ_ret, SeqQ_exit, SeqQ_ret, RndQ_normal, RndQ_exit, RndQ_ret, List.length_cons, List.length_nil, Nat.reduceSub, hn0, hU, hb1', hb2', ← List.map_drop, hat, hat1, hat5, List.map_cons, promises_len, hcn, hd', sub0, Nat.sub_zero, reqs_take, votes_take, promises_take, batches_take, Int.reduceEq, Bool.true_beq, Bool.false_beq, toDs_map, sub_map, Nat.zero_mul, Nat.one_mul, Nat.mul_one, List.drop_zero, List.length_map, sub1_1, sub1_2, sub1_3, sub1_4, sub1_5, sub1_6, sub1_7, sub1_8, Int.toNat_zero, Int.toNat_one, true_and, and_true, if_true, if_false, Nat.zero_add, Nat.add_zero, implies_true, Bool.true_and, Bool.and_true, Bool.false_eq_true, Nat.reduceEqDiff, Nat.reduceAdd, Nat.reduceMul, Nat.reduceLeDiff, Nat.reduceLT, Nat.reduceBEq, Bool.or_false, Bool.false_or, Bool.true_or, Bool.or_true, Bool.false_and, Bool.and_false, beq_self_eq_true, Nat.zero_lt_succ, List.zip_nil_left, List.zip_nil_right, Int.toNat_natCast, reduceCtorEq, imp_self, ne_eq, not_false_eq_true, beq_iff_eq, forall_const, true_implies] | refine CallR_of (by first | exact hwc | exact CallOK.le (hwc) (by simp [argsLe, aLe, csLe, cLe])) ?_ | refine CallRG_of (fun hg => by first | exact hwc | exact CallOK.le (hwc) (by simp [argsLe, aLe, csLe, cLe])) rfl ?_ | with_reducible refine CondR_tt ?_ | with_reducible refine CondR_ff ?_ | refine CondR_of (fun hb => ?_) (fun hb => ?_) | (refine And.intro ?_ ?_; focus ((try with_reducible refine GIm_of ?_); first | (with_reducible rfl) | (show _ = List.range _; rfl) | (show ordB _ = true; kernel_rfl) | (show chkFP _ _ = true; kernel_rfl) | (intros; omega) | (intro q1 q2; rw [q1, q2]; rfl) | (intro q1; rw [q1]; rfl) | (intro q; simp only [Bool.and_eq_true, decide_eq_true_eq, beq_iff_eq] at q; omega) | (intros; simp_all; done) | (intros; simp [List.range, List.range.loop]; done) | (intros; simp_all [List.range, List.range.loop]; done))) | refine And.intro (fun hg => ?_) (fun hg => ?_) | fail)
          refine hK _ (i + 1) (Gh.canon [16, 19, 21] [] [] (by simp only [hw, fgc_dead, fgc_dv, fgc_lent, fgc_nil, fgc_ptr, fgc_own, List.set_cons_zero, List.set_cons_succ, and_true, true_and, Int.natCast_zero, Int.cast_ofNat_Int, D.v.injEq, Value.int.injEq]; try (repeat' (first | rfl | omega | with_reducible apply And.intro))) rfl rfl) hi trivial (by omega)
        · rw [hb2, if_pos rfl] at hqs
          have hb2' := hb2
          unfold bitAt at hb1' hb2'
          have hqa : promisesE q ++ p.enc = promisesE (quoP v vo ak ps (i + 1)) := by rw [hqs, promisesE_snoc]
          have hql : q.length + 1 = (quoP v vo ak ps (i + 1)).length := by rw [hqs, List.length_append, List.length_singleton]
          simp only [Prom.enc] at hqa
          clear hqs
          repeat' (first | rw [SeqQ_normal] | rw [awp_seq] | simp only [pk0, pk1, pk2, pk3, pk4, pk5, pk6, pk7, pe0, pe1, TyB, BlkQ_normal, BlkQ_exit, BlkQ_ret, SeqQ_exit, SeqQ_ret, RndQ_normal, RndQ_exit, RndQ_ret, List.length_cons, List.length_nil, Nat.reduceSub, hn0, hU, hb1', hb2', ← List.map_drop, hat, hat1, hat5,  List.map_cons, promises_len, hqa, hql, hcn, hd', sub0, Nat.sub_zero, reqs_take, votes_take, promises_take, batches_take, Int.reduceEq, Bool.true_beq, Bool.false_beq, toDs_map, sub_map, Nat.zero_mul, Nat.one_mul, Nat.mul_one, List.drop_zero, List.length_map, sub1_1, sub1_2, sub1_3, sub1_4, sub1_5, sub1_6, sub1_7, sub1_8, Int.toNat_zero, Int.toNat_one, true_and, and_true, if_true, if_false, Nat.zero_add, Nat.add_zero, implies_true, Bool.true_and, Bool.and_true, Bool.false_eq_true, Nat.reduceEqDiff, Nat.reduceAdd, Nat.reduceMul, Nat.reduceLeDiff, Nat.reduceLT, Nat.reduceBEq, Bool.or_false, Bool.false_or, Bool.true_or, Bool.or_true, Bool.false_and, Bool.and_false, beq_self_eq_true, Nat.zero_lt_succ, List.zip_nil_left, List.zip_nil_right, Int.toNat_natCast, reduceCtorEq, imp_self, ne_eq, not_false_eq_true, beq_iff_eq, forall_const, true_implies] | refine CallR_of (by first | exact hwc | exact CallOK.le (hwc) (by simp [argsLe, aLe, csLe, cLe])) ?_ | refine CallRG_of (fun hg => by first | exact hwc | exact CallOK.le (hwc) (by simp [argsLe, aLe, csLe, cLe])) rfl ?_ | with_reducible refine CondR_tt ?_ | with_reducible refine CondR_ff ?_ | refine CondR_of (fun hb => ?_) (fun hb => ?_) | (refine And.intro ?_ ?_; focus ((try with_reducible refine GIm_of ?_); first | (with_reducible rfl) | (show _ = List.range _; rfl) | (show ordB _ = true; kernel_rfl) | (show chkFP _ _ = true; kernel_rfl) | (intros; omega) | (intro q1 q2; rw [q1, q2]; rfl) | (intro q1; rw [q1]; rfl) | (intro q; simp only [Bool.and_eq_true, decide_eq_true_eq, beq_iff_eq] at q; omega) | (intros; simp_all; done) | (intros; simp [List.range, List.range.loop]; done) | (intros; simp_all [List.range, List.range.loop]; done))) | refine And.intro (fun hg => ?_) (fun hg => ?_) | fail)
          refine hK _ (i + 1) (Gh.canon [16, 19, 21] [] [] (by simp only [hw, fgc_dead, fgc_dv, fgc_lent, fgc_nil, fgc_ptr, fgc_own, List.set_cons_zero, List.set_cons_succ, and_true, true_and, Int.natCast_zero, Int.cast_ofNat_Int, D.v.injEq, Value.int.injEq]; try (repeat' (first | rfl | omega | with_reducible apply And.intro))) rfl rfl) hi trivial (by omega)
  · have hi : i = k := by
      have : ¬ (i : Int) < k := by simpa using hge
      omega
    subst hi
    have hkq := quoP_len (v := v) (w := vo) (a := ak) (ps := ps) (i := i) hkl
    have hq9 := cntB_le (w := ak) (i := i)
    have hw9' := cntB_le (w := vo) (i := i)
    have hm1 : IntKind.i64.wrap (2 * (cntB vo i : Int)) = 2 * (cntB vo i : Int) := wrap64 (by omega) (by omega)
    have hm2 : IntKind.i64.wrap (2 * ((quoP v vo ak ps i).length : Int)) = 2 * ((quoP v vo ak ps i).length : Int) := wrap64 (by omega) (by omega)
    repeat' (first | rw [SeqQ_normal] | rw [awp_seq] | simp only [pk0, pk1, pk2, pk3, pk4, pk5, pk6, pk7, pe0, pe1, TyB, BlkQ_normal, BlkQ_exit, BlkQ_ret, SeqQ_exit, SeqQ_ret, RndQ_normal, RndQ_exit, RndQ_ret, List.length_cons, List.length_nil, Nat.reduceSub, hm1, hm2, sub0, Nat.sub_zero, reqs_take, votes_take, promises_take, batches_take, Int.reduceEq, Bool.true_beq, Bool.false_beq, toDs_map, sub_map, Nat.zero_mul, Nat.one_mul, Nat.mul_one, List.drop_zero, List.length_map, sub1_1, sub1_2, sub1_3, sub1_4, sub1_5, sub1_6, sub1_7, sub1_8, Int.toNat_zero, Int.toNat_one, true_and, and_true, if_true, if_false, Nat.zero_add, Nat.add_zero, implies_true, Bool.true_and, Bool.and_true, Bool.false_eq_true, Nat.reduceEqDiff, Nat.reduceAdd, Nat.reduceMul, Nat.reduceLeDiff, Nat.reduceLT, Nat.reduceBEq, Bool.or_false, Bool.false_or, Bool.true_or, Bool.or_true, Bool.false_and, Bool.and_false, beq_self_eq_true, Nat.zero_lt_succ, List.zip_nil_left, List.zip_nil_right, Int.toNat_natCast, reduceCtorEq, imp_self, ne_eq, not_false_eq_true, beq_iff_eq, forall_const, true_implies] | refine CallR_of (by first | exact awake_ok | exact CallOK.le (awake_ok) (by simp [argsLe, aLe, csLe, cLe])) ?_ | refine CallRG_of (fun hg => by first | exact awake_ok | exact CallOK.le (awake_ok) (by simp [argsLe, aLe, csLe, cLe])) rfl ?_ | with_reducible refine CondR_tt ?_ | with_reducible refine CondR_ff ?_ | refine CondR_of (fun hb => ?_) (fun hb => ?_) | (refine And.intro ?_ ?_; focus ((try with_reducible refine GIm_of ?_); first | (with_reducible rfl) | (show _ = List.range _; rfl) | (show ordB _ = true; kernel_rfl) | (show chkFP _ _ = true; kernel_rfl) | (intros; omega) | (intro q1 q2; rw [q1, q2]; rfl) | (intro q1; rw [q1]; rfl) | (intro q; simp only [Bool.and_eq_true, decide_eq_true_eq, beq_iff_eq] at q; omega) | (intros; simp_all; done) | (intros; simp [List.range, List.range.loop]; done) | (intros; simp_all [List.range, List.range.loop]; done))) | refine And.intro (fun hg => ?_) (fun hg => ?_) | fail)
    have hbo : (9 + ba : Int) ≤ 1000 := by have := hba.2; omega
    have hvok : v.ok := by
      refine ⟨?_, ?_, ?_⟩
      · rw [hvs]; unfold i64; omega
      · rw [hvb]; have := hba.1; unfold i64; omega
      · rw [hvx]; exact hbok
    simp only [Bool.or_eq_false_iff, decide_eq_false_iff_not] at hb
    obtain ⟨hb1, hb2⟩ := hb
    refine LoopR_fn (τ := Nat) (fun t => ⟨[dd, dd, dd, dd, dd, dd, dd, dd, dd, dd, dd, dd, dd, dd, dd, ai i, .one (.own ⟨16, 1, 1⟩ 0 i), ai (1 + m8 sl 9), dd, .one (.ptr ⟨19, 0, 1⟩ 0), dd, .one (.own ⟨21, 1, 1⟩ 0 (quoP v vo ak ps i).length), dd, ai t, dd, dd, dd, dd, dd, dd, dd, dd, dd, dd, dd, dd, dd, dd, dd, dd, dd, dd, dd, dd, dd, dd, dd, dd, dd, dd, dd, dd, dd, dd, dd, dd, dd, dd, dd, dd, dd, dd, dd, dd, dd, dd, dd, dd, dd, dd, dd, dd, dd, dd, dd, dd, dd, dd, dd, dd, dd, dd, dd, dd, dd, dd, dd, dd, dd, dd, dd, dd, dd, dd, dd, dd, dd, dd, dd, dd, dd, dd, dd, dd, dd, dd, dd, dd, dd, dd, dd, dd, dd, dd, dd, dd, dd, dd, dd, dd, dd, dd, dd, dd, dd, dd, dd, dd, dd, dd, dd, dd, dd, dd, dd, dd, dd, dd, dd, dd, dd, dd, dd, dd, dd, dd, dd, dd, dd, dd, dd, dd, dd, dd, dd, dd, dd],
        [(26, ⟨2, []⟩), (32, ⟨2, []⟩), (16, { next := 2, l := [none, some { e := 1, var := false, fz := false, sz := 6, cells := (promisesE (curP v vo ps i)).map C.d }] }), (49, ⟨2, []⟩), (19, { next := 2, l := [some { e := 1, var := true, fz := false, sz := 0, cells := [db x.fill, di x.view, di x.tip.view, di x.tip.slot, di x.time, .d (.sl x.reqs.length (reqsE x.reqs))] }, none, none, none, none, none, some { e := 1, var := false, fz := true, sz := 5, cells := (reqsE x.reqs).map C.d }] }), (21, { next := 2, l := [none, some { e := 1, var := false, fz := false, sz := 6, cells := (promisesE (quoP v vo ak ps i)).map C.d }] }), (81, ⟨2, []⟩), (95, ⟨2, []⟩)]⟩)
      (fun t => t ≤ i ∧ ∀ j (hj : j < ps.length), j < t → Prom.may (modP v (bitAt vo j) ps[j]) = true) (fun _ => ()) (fun t => i - t) 0
      (Gh.canon [16, 19, 21] [] [] (by simp only [fgc_dead, fgc_dv, fgc_lent, fgc_nil, fgc_ptr, fgc_own, List.set_cons_zero, List.set_cons_succ, and_true, true_and, Int.natCast_zero, Int.cast_ofNat_Int, D.v.injEq, Value.int.injEq]; try (repeat' (first | rfl | omega | with_reducible apply And.intro))) rfl rfl) ⟨Nat.zero_le _, fun j _ h => absurd h (Nat.not_lt_zero _)⟩ ?_
    intro j ⟨hj0, hjm⟩ hF2 K2 hK2
    simp only at hj0 hjm hF2 hK2 ⊢
    repeat (first | rw [SeqQ_normal] | rw [awp_seq] | simp only [pk0, pk1, pk2, pk3, pk4, pk5, pk6, pk7, pe0, pe1, TyB, BlkQ_normal, BlkQ_exit, BlkQ_ret, SeqQ_exit, SeqQ_ret, RndQ_normal, RndQ_exit, RndQ_ret, List.length_cons, List.length_nil, Nat.reduceSub,  true_and, and_true, if_true, if_false, Nat.zero_add, Nat.add_zero, implies_true, Bool.true_and, Bool.and_true, Bool.false_eq_true, Nat.reduceEqDiff, Nat.reduceAdd, Nat.reduceMul, Nat.reduceLeDiff, Nat.reduceLT, Nat.reduceBEq, Bool.or_false, Bool.false_or, Bool.true_or, Bool.or_true, Bool.false_and, Bool.and_false, beq_self_eq_true, Nat.zero_lt_succ, List.zip_nil_left, List.zip_nil_right, Int.toNat_natCast, reduceCtorEq, imp_self, ne_eq, not_false_eq_true, beq_iff_eq, forall_const, true_implies])
    refine CondR_of (fun hlt => ?_) (fun hge2 => ?_)
    · have hj : j < i := by simpa using hlt
      have hjp : j < ps.length := by omega
      have hjl : j < (curP v vo ps i).length := by rw [curP_len]; exact hjp
      have hcl3 : (curP v vo ps i).length = ps.length := curP_len
      have hat := promises_at hjl
      have hcj : (curP v vo ps i)[j] = modP v (bitAt vo j) ps[j] := by
        have := curP_at (v := v) (w := vo) (i := i) hjp
        rw [if_pos hj, List.getElem?_eq_getElem hjl] at this
        simpa using this
      have hmp := may_of (hpm _ (List.getElem_mem hjp))
      have hmr := promMayR_ok _ (modP_ok (b := bitAt vo j) hvok (hpk _ (List.getElem_mem hjp)) hmp.len)
      rw [hcj] at hat
      obtain ⟨p, hp⟩ : ∃ p, p = modP v (bitAt vo j) ps[j] := ⟨_, rfl⟩
      rw [← hp] at hat hmr
      simp only [List.cons_append, List.nil_append] at hat
      have hw := i64_succ hjp (by omega)
      clear hlt hmp
      cases hm : Prom.may p
      · rw [hm] at hmr
        repeat' (first | rw [SeqQ_normal] | rw [awp_seq] | simp only [pk0, pk1, pk2, pk3, pk4, pk5, pk6, pk7, pe0, pe1, TyB, BlkQ_normal, BlkQ_exit, BlkQ_ret, SeqQ_exit, SeqQ_ret, RndQ_normal, RndQ_exit, RndQ_ret, List.length_cons, List.length_nil, Nat.reduceSub, ← List.map_drop, hat, List.map_cons, promises_len, Bool.not_false, sub0, Nat.sub_zero, reqs_take, votes_take, promises_take, batches_take, Int.reduceEq, Bool.true_beq, Bool.false_beq, toDs_map, sub_map, Nat.zero_mul, Nat.one_mul, Nat.mul_one, List.drop_zero, List.length_map, sub1_1, sub1_2, sub1_3, sub1_4, sub1_5, sub1_6, sub1_7, sub1_8, Int.toNat_zero, Int.toNat_one, true_and, and_true, if_true, if_false, Nat.zero_add, Nat.add_zero, implies_true, Bool.true_and, Bool.and_true, Bool.false_eq_true, Nat.reduceEqDiff, Nat.reduceAdd, Nat.reduceMul, Nat.reduceLeDiff, Nat.reduceLT, Nat.reduceBEq, Bool.or_false, Bool.false_or, Bool.true_or, Bool.or_true, Bool.false_and, Bool.and_false, beq_self_eq_true, Nat.zero_lt_succ, List.zip_nil_left, List.zip_nil_right, Int.toNat_natCast, reduceCtorEq, imp_self, ne_eq, not_false_eq_true, beq_iff_eq, forall_const, true_implies] | refine CallR_of (by first | exact hmr | exact awake_ok | exact CallOK.le (hmr) (by simp [argsLe, aLe, csLe, cLe]) | exact CallOK.le (awake_ok) (by simp [argsLe, aLe, csLe, cLe])) ?_ | refine CallRG_of (fun hg => by first | exact hmr | exact awake_ok | exact CallOK.le (hmr) (by simp [argsLe, aLe, csLe, cLe]) | exact CallOK.le (awake_ok) (by simp [argsLe, aLe, csLe, cLe])) rfl ?_ | with_reducible refine CondR_tt ?_ | with_reducible refine CondR_ff ?_ | refine CondR_of (fun hb => ?_) (fun hb => ?_) | (refine And.intro ?_ ?_; focus ((try with_reducible refine GIm_of ?_); first | (with_reducible rfl) | (show _ = List.range _; rfl) | (show ordB _ = true; kernel_rfl) | (show chkFP _ _ = true; kernel_rfl) | (intros; omega) | (intro q1 q2; rw [q1, q2]; rfl) | (intro q1; rw [q1]; rfl) | (intro q; simp only [Bool.and_eq_true, decide_eq_true_eq, beq_iff_eq] at q; omega) | (intros; simp_all; done) | (intros; simp [List.range, List.range.loop]; done) | (intros; simp_all [List.range, List.range.loop]; done))) | refine And.intro (fun hg => ?_) (fun hg => ?_) | fail)
      · rw [hm] at hmr
        repeat' (first | rw [SeqQ_normal] | rw [awp_seq] | simp only [pk0, pk1, pk2, pk3, pk4, pk5, pk6, pk7, pe0, pe1, TyB, BlkQ_normal, BlkQ_exit, BlkQ_ret, SeqQ_exit, SeqQ_ret, RndQ_normal, RndQ_exit, RndQ_ret, List.length_cons, List.length_nil, Nat.reduceSub, ← List.map_drop, hat, List.map_cons, promises_len, Bool.not_true, sub0, Nat.sub_zero, reqs_take, votes_take, promises_take, batches_take, Int.reduceEq, Bool.true_beq, Bool.false_beq, toDs_map, sub_map, Nat.zero_mul, Nat.one_mul, Nat.mul_one, List.drop_zero, List.length_map, sub1_1, sub1_2, sub1_3, sub1_4, sub1_5, sub1_6, sub1_7, sub1_8, Int.toNat_zero, Int.toNat_one, true_and, and_true, if_true, if_false, Nat.zero_add, Nat.add_zero, implies_true, Bool.true_and, Bool.and_true, Bool.false_eq_true, Nat.reduceEqDiff, Nat.reduceAdd, Nat.reduceMul, Nat.reduceLeDiff, Nat.reduceLT, Nat.reduceBEq, Bool.or_false, Bool.false_or, Bool.true_or, Bool.or_true, Bool.false_and, Bool.and_false, beq_self_eq_true, Nat.zero_lt_succ, List.zip_nil_left, List.zip_nil_right, Int.toNat_natCast, reduceCtorEq, imp_self, ne_eq, not_false_eq_true, beq_iff_eq, forall_const, true_implies] | refine CallR_of (by first | exact hmr | exact awake_ok | exact CallOK.le (hmr) (by simp [argsLe, aLe, csLe, cLe]) | exact CallOK.le (awake_ok) (by simp [argsLe, aLe, csLe, cLe])) ?_ | refine CallRG_of (fun hg => by first | exact hmr | exact awake_ok | exact CallOK.le (hmr) (by simp [argsLe, aLe, csLe, cLe]) | exact CallOK.le (awake_ok) (by simp [argsLe, aLe, csLe, cLe])) rfl ?_ | with_reducible refine CondR_tt ?_ | with_reducible refine CondR_ff ?_ | refine CondR_of (fun hb => ?_) (fun hb => ?_) | (refine And.intro ?_ ?_; focus ((try with_reducible refine GIm_of ?_); first | (with_reducible rfl) | (show _ = List.range _; rfl) | (show ordB _ = true; kernel_rfl) | (show chkFP _ _ = true; kernel_rfl) | (intros; omega) | (intro q1 q2; rw [q1, q2]; rfl) | (intro q1; rw [q1]; rfl) | (intro q; simp only [Bool.and_eq_true, decide_eq_true_eq, beq_iff_eq] at q; omega) | (intros; simp_all; done) | (intros; simp [List.range, List.range.loop]; done) | (intros; simp_all [List.range, List.range.loop]; done))) | refine And.intro (fun hg => ?_) (fun hg => ?_) | fail)
        refine hK2 _ (j + 1) (Gh.canon [16, 19, 21] [] [] (by simp only [hw, fgc_dead, fgc_dv, fgc_lent, fgc_nil, fgc_ptr, fgc_own, List.set_cons_zero, List.set_cons_succ, and_true, true_and, Int.natCast_zero, Int.cast_ofNat_Int, D.v.injEq, Value.int.injEq]; try (repeat' (first | rfl | omega | with_reducible apply And.intro))) rfl rfl) ⟨hj, fun t ht htj => ?_⟩ trivial (by omega)
        by_cases htj' : t < j
        · exact hjm t ht htj'
        · have : t = j := by omega
          subst this
          rw [← hp]; exact hm
    · have hj : j = i := by
        have : ¬ (j : Int) < i := by simpa using hge2
        omega
      subst hj
      have hch := chosen_ok (v := v) (w := vo) (a := ak) (ps := ps) (k := j) hkl (by rw [hvb]; have := hba.1; omega) hpn (fun p hp u hu => by rw [hvb]; have := hpb p hp u hu; have := hba.1; omega) (fun t ht htj => hjm t ht htj) (by omega) (by omega)
      obtain ⟨c1, c2⟩ := hch
      have hqmem := fun p (hp : p ∈ quoP v vo ak ps j) => quoP_mem (v := v) (w := vo) (a := ak) hkl hp
      have hqm : ∀ p ∈ quoP v vo ak ps j, Prom.may p = true := fun p hp => by
        obtain ⟨t, g1, g2, g3, rfl⟩ := hqmem p hp
        exact hjm t g1 g2
      have hqo : ∀ p ∈ quoP v vo ak ps j, p.ok := fun p hp => by
        obtain ⟨t, g1, g2, g3, rfl⟩ := hqmem p hp
        exact modP_ok hvok (hpk _ (List.getElem_mem g1)) (may_of (hpm _ (List.getElem_mem g1))).len
      have hqne : quoP v vo ak ps j ≠ [] := fun e => by rw [e] at hb2; simp at hb2
      have hOK := order_ok hqne hqm (quoP_nodup hpn hkl)
      have k1 := make_ok (quoP v vo ak ps j) (by omega) hqo
      rw [c1] at k1
      simp only [Plan.rf] at k1
      have hdn := hOK.dn
      have hl9 := hOK.len
      clear hqmem hqm hqo hqne hOK hjm hK hK2 c1 hge hge2
      generalize quoP v vo ak ps j = q at *
      generalize planR q = pl at *
      have hsx := same12_ok x hbok.2.2.2.2.1
      rw [hvs] at c2
      have hz1 : IntKind.i64.wrap (1 + m8 sl 9 - pl.done) = 1 + m8 sl 9 - pl.done := wrap64 (by omega) (by omega)
      have hz2 : IntKind.i64.wrap (1 + m8 sl 9 - pl.done - 1) = 1 + m8 sl 9 - pl.done - 1 := wrap64 (by omega) (by omega)
      by_cases hd : pl.done < 1 + m8 sl 9
      · obtain ⟨d1, d2⟩ := c2 hd
        obtain ⟨z, hz⟩ : ∃ z : Nat, z = (1 + m8 sl 9 - pl.done - 1).toNat := ⟨_, rfl⟩
        rw [← hz] at d2
        have hzl : z < pl.batches.length := by omega
        have hat3 := batches_at hzl
        rw [List.getElem?_eq_getElem hzl, Option.some.injEq, hvx] at d2
        rw [d2] at hat3
        simp only [List.cons_append, List.nil_append] at hat3
        have hd1 := decide_eq_true d1
        have hd' := decide_eq_false (show ¬ pl.done ≥ 1 + m8 sl 9 by omega)
        clear c2 d2
        repeat' (first | rw [SeqQ_normal] | rw [awp_seq] | simp only [pk0, pk1, pk2, pk3, pk4, pk5, pk6, pk7, pe0, pe1, TyB, BlkQ_normal, BlkQ_exit, BlkQ_ret, SeqQ_exit, SeqQ_ret, RndQ_normal, RndQ_exit, RndQ_ret, List.length_cons, List.length_nil, Nat.reduceSub, hz1, hz2, ← hz, hd1, hd', bne_self_eq_false, ← List.map_drop, hat3, List.map_cons, batches_len, sub0, Nat.sub_zero, reqs_take, votes_take, promises_take, batches_take, Int.reduceEq, Bool.true_beq, Bool.false_beq, toDs_map, sub_map, Nat.zero_mul, Nat.one_mul, Nat.mul_one, List.drop_zero, List.length_map, sub1_1, sub1_2, sub1_3, sub1_4, sub1_5, sub1_6, sub1_7, sub1_8, Int.toNat_zero, Int.toNat_one, true_and, and_true, if_true, if_false, Nat.zero_add, Nat.add_zero, implies_true, Bool.true_and, Bool.and_true, Bool.false_eq_true, Nat.reduceEqDiff, Nat.reduceAdd, Nat.reduceMul, Nat.reduceLeDiff, Nat.reduceLT, Nat.reduceBEq, Bool.or_false, Bool.false_or, Bool.true_or, Bool.or_true, Bool.false_and, Bool.and_false, beq_self_eq_true, Nat.zero_lt_succ, List.zip_nil_left, List.zip_nil_right, Int.toNat_natCast, reduceCtorEq, imp_self, ne_eq, not_false_eq_true, beq_iff_eq, forall_const, true_implies] | refine CallR_of (by first | exact k1 | exact awake_ok | exact hsx | exact CallOK.le (k1) (by simp [argsLe, aLe, csLe, cLe]) | exact CallOK.le (awake_ok) (by simp [argsLe, aLe, csLe, cLe]) | exact CallOK.le (hsx) (by simp [argsLe, aLe, csLe, cLe])) ?_ | refine CallRG_of (fun hg => by first | exact k1 | exact awake_ok | exact hsx | exact CallOK.le (k1) (by simp [argsLe, aLe, csLe, cLe]) | exact CallOK.le (awake_ok) (by simp [argsLe, aLe, csLe, cLe]) | exact CallOK.le (hsx) (by simp [argsLe, aLe, csLe, cLe])) rfl ?_ | with_reducible refine CondR_tt ?_ | with_reducible refine CondR_ff ?_ | refine CondR_of (fun hb => ?_) (fun hb => ?_) | (refine And.intro ?_ ?_; focus ((try with_reducible refine GIm_of ?_); first | (with_reducible rfl) | (show _ = List.range _; rfl) | (show ordB _ = true; kernel_rfl) | (show chkFP _ _ = true; kernel_rfl) | (intros; omega) | (intro q1 q2; rw [q1, q2]; rfl) | (intro q1; rw [q1]; rfl) | (intro q; simp only [Bool.and_eq_true, decide_eq_true_eq, beq_iff_eq] at q; omega) | (intros; simp_all; done) | (intros; simp [List.range, List.range.loop]; done) | (intros; simp_all [List.range, List.range.loop]; done))) | refine And.intro (fun hg => ?_) (fun hg => ?_) | fail)
        all_goals (show chkFP _ _ = true; kernel_rfl)
      · have hd' := decide_eq_true (show pl.done ≥ 1 + m8 sl 9 by omega)
        repeat' (first | rw [SeqQ_normal] | rw [awp_seq] | simp only [pk0, pk1, pk2, pk3, pk4, pk5, pk6, pk7, pe0, pe1, TyB, BlkQ_normal, BlkQ_exit, BlkQ_ret, SeqQ_exit, SeqQ_ret, RndQ_normal, RndQ_exit, RndQ_ret, List.length_cons, List.length_nil, Nat.reduceSub, hd', bne_self_eq_false, sub0, Nat.sub_zero, reqs_take, votes_take, promises_take, batches_take, Int.reduceEq, Bool.true_beq, Bool.false_beq, toDs_map, sub_map, Nat.zero_mul, Nat.one_mul, Nat.mul_one, List.drop_zero, List.length_map, sub1_1, sub1_2, sub1_3, sub1_4, sub1_5, sub1_6, sub1_7, sub1_8, Int.toNat_zero, Int.toNat_one, true_and, and_true, if_true, if_false, Nat.zero_add, Nat.add_zero, implies_true, Bool.true_and, Bool.and_true, Bool.false_eq_true, Nat.reduceEqDiff, Nat.reduceAdd, Nat.reduceMul, Nat.reduceLeDiff, Nat.reduceLT, Nat.reduceBEq, Bool.or_false, Bool.false_or, Bool.true_or, Bool.or_true, Bool.false_and, Bool.and_false, beq_self_eq_true, Nat.zero_lt_succ, List.zip_nil_left, List.zip_nil_right, Int.toNat_natCast, reduceCtorEq, imp_self, ne_eq, not_false_eq_true, beq_iff_eq, forall_const, true_implies] | refine CallR_of (by first | exact k1 | exact awake_ok | exact CallOK.le (k1) (by simp [argsLe, aLe, csLe, cLe]) | exact CallOK.le (awake_ok) (by simp [argsLe, aLe, csLe, cLe])) ?_ | refine CallRG_of (fun hg => by first | exact k1 | exact awake_ok | exact CallOK.le (k1) (by simp [argsLe, aLe, csLe, cLe]) | exact CallOK.le (awake_ok) (by simp [argsLe, aLe, csLe, cLe])) rfl ?_ | with_reducible refine CondR_tt ?_ | with_reducible refine CondR_ff ?_ | refine CondR_of (fun hb => ?_) (fun hb => ?_) | (refine And.intro ?_ ?_; focus ((try with_reducible refine GIm_of ?_); first | (with_reducible rfl) | (show _ = List.range _; rfl) | (show ordB _ = true; kernel_rfl) | (show chkFP _ _ = true; kernel_rfl) | (intros; omega) | (intro q1 q2; rw [q1, q2]; rfl) | (intro q1; rw [q1]; rfl) | (intro q; simp only [Bool.and_eq_true, decide_eq_true_eq, beq_iff_eq] at q; omega) | (intros; simp_all; done) | (intros; simp [List.range, List.range.loop]; done) | (intros; simp_all [List.range, List.range.loop]; done))) | refine And.intro (fun hg => ?_) (fun hg => ?_) | fail)
end Go.Proofs.Ythlolabfogklgaa

