/- The library's functions on rows of promises and of votes. -/
import Derived.Test.YtgiempmfpmlgnaaGreatY
import Derived.Test.YtgiempmfpmlgnaaGreatK7
namespace Go.Proofs.YtgiempmfpmlgnaaGreat
open Go.Pk
set_option maxRecDepth 100000
set_option linter.unusedSimpArgs false
set_option linter.unusedVariables false
theorem wrapU64' {n : Nat} (h : n < 2 ^ 63) : IntKind.u64.wrap (n : Int) = n := by
  unfold IntKind.wrap
  simp [IntKind.signed, IntKind.bits]
  omega
theorem bad_x : Go.Pk.bad.x = .one .dead := rfl
theorem take_app {α : Type} {n : Nat} {l m : List α} (h : l.length = n) : (l ++ m).take n = l := List.take_left' h
theorem drop_app {α : Type} {n : Nat} {l m : List α} (h : l.length = n) : (l ++ m).drop n = m := List.drop_left' h
theorem drop_app2 {α : Type} {n : Nat} {l m : List α} (h : l.length ≤ n) : (l ++ m).drop n = m.drop (n - l.length) := by rw [List.drop_append, List.drop_eq_nil_of_le h, List.nil_append]
theorem fillAt_app {α : Type} : ∀ (xs pre mid post : List α), mid.length = xs.length → fillAt pre.length xs (pre ++ (mid ++ post)) = pre ++ (xs ++ post)
  | [], pre, mid, post, h => by
    have : mid = [] := List.eq_nil_of_length_eq_zero h
    subst this; rfl
  | x :: xs, pre, m :: mid, post, h => by
    have := fillAt_app xs (pre ++ [x]) mid post (by simpa using h)
    rw [fillAt]
    simp only [List.length_append, List.length_cons, List.length_nil, Nat.zero_add, List.append_assoc, List.cons_append, List.nil_append] at this ⊢
    rw [← this]
    congr 1
    simp [List.set_append]
  | x :: xs, pre, [], post, h => by simp at h
theorem fill_enc {α : Type} (enc : α → List D) (sz : Nat) (h : ∀ x, (enc x).length = sz) {l : List α} {i : Nat} (hi : i < l.length) (x : α) :
    fillAt (i * sz) ((enc x).map C.d) ((l.flatMap enc).map C.d) = ((l.set i x).flatMap enc).map C.d := by
  have e1 : l = l.take i ++ (l[i] :: l.drop (i + 1)) := by rw [List.getElem_cons_drop]; simp
  have e2 : l.set i x = l.take i ++ (x :: l.drop (i + 1)) := by rw [List.set_eq_take_append_cons_drop, if_pos hi]
  have hl : ((l.take i).flatMap enc).length = i * sz := by rw [len_enc enc sz h, List.length_take]; congr 1; omega
  rw [e2]
  conv => lhs; rw [e1]
  simp only [List.flatMap_append, List.flatMap_cons, List.map_append]
  have := fillAt_app ((enc x).map C.d) (((l.take i).flatMap enc).map C.d) ((enc l[i]).map C.d) (((l.drop (i + 1)).flatMap enc).map C.d) (by simp [h])
  rw [List.length_map, hl] at this
  exact this
theorem take_set_succ {α : Type} {l : List α} {i : Nat} (h : i < l.length) (x : α) : (l.set i x).take (i + 1) = l.take i ++ [x] := by
  rw [List.set_eq_take_append_cons_drop, if_pos h]
  have : (l.take i).length = i := by rw [List.length_take]; omega
  rw [List.take_append, this, List.take_of_length_le (by omega), show i + 1 - i = 1 by omega]
  rfl
theorem drop_set_lt {α : Type} {l : List α} {i j : Nat} (h : i < j) (x : α) : (l.set i x).drop j = l.drop j := by
  apply List.ext_getElem?
  intro k
  rw [List.getElem?_drop, List.getElem?_drop, List.getElem?_set_ne (by omega)]
theorem idxF_nat {α : Type} (p : α → Bool) : ∀ (l : List α) (i : Nat), (∀ x ∈ l, p x = false) ∧ idxF p l i = -1 ∨ ∃ k, ∃ h : k < l.length, idxF p l i = ((i + k : Nat) : Int) ∧ p l[k] = true ∧ ∀ x ∈ l.take k, p x = false
  | [], i => .inl ⟨fun x hx => (List.not_mem_nil hx).elim, rfl⟩
  | x :: l, i => by
    rw [idxF]
    by_cases hx : p x = true
    · rw [if_pos hx]
      exact .inr ⟨0, by simp, rfl, by simpa using hx, fun y hy => by simp at hy⟩
    · rw [if_neg hx]
      have hx' : p x = false := by simpa using hx
      rcases idxF_nat p l (i + 1) with ⟨h1, h2⟩ | ⟨k, hk, h1, h2, h3⟩
      · exact .inl ⟨fun y hy => (List.mem_cons.1 hy).elim (fun e => e ▸ hx') (fun e => h1 y e), by simpa using h2⟩
      · refine .inr ⟨k + 1, by simpa using hk, ?_, by simpa using h2, fun y hy => ?_⟩
        · have : ((i : Int) + 1) = ((i + 1 : Nat) : Int) := rfl
          rw [this, h1]; congr 1; omega
        · rw [List.take_succ_cons] at hy
          exact (List.mem_cons.1 hy).elim (fun e => e ▸ hx') (fun e => h3 y e)
abbrev promAV : Prom → AV := fun x => .agg (x.enc.map C.d)
abbrev voteAV : Vote → AV := fun x => .agg (x.enc.map C.d)
theorem index_vote (l : List Vote) (hl : l.length < 2 ^ 62) (p : Vote → Bool) (f : Nat) (caps : List C) (hc : lendAs [] (caps.map AV.one) = some (caps.map fun c => .f (.one c)))
    (hp : ∀ x ∈ l, CallOK Tryz.prog f (.f (voteAV x) :: caps.map fun c => .f (.one c)) (fun r o => r = [rb (p x)] ∧ o = [])) :
    CallOK Tryz.prog 71 [.f (al l.length (votesE l)), .f (.one (.clos f caps))] (fun r o => r = [ri (idxF p l 0)] ∧ o = []) := by
  refine callOK_of TOKTy mixed (T := Ty) (n := 19) Tryz.func71 (c := Tryz.f71.body.getD .skip) rfl Tryz.results71 Tryz.ntmps71 Tryz.call71 ?_
  simp only [Tryz.f71, Option.getD]
  repeat (first | with_reducible refine SeqQ_normal _ _ ?_ | with_reducible refine And.imp_right (SeqQ_normal _ _) ?_ | with_reducible refine And.imp_right (And.imp_right (SeqQ_normal _ _)) ?_ | with_reducible refine And.imp_right (And.imp_right (And.imp_right (SeqQ_normal _ _))) ?_ | rw [awp_seq] | simp only [pkS, TyB,  implies_true, forall_const, Nat.reduceSub, Nat.reduceEqDiff, Nat.reduceAdd, Nat.reduceMul, Nat.reduceLeDiff, Nat.reduceLT, Nat.reduceBEq, reduceCtorEq])
  refine LoopR_fn (τ := Nat) (fun i => ⟨[al l.length (votesE l), .one (.clos f caps), dd, dd, ai 0, dd, al l.length (votesE l), ai l.length, ai i, dd, dd, dd, dd, dd, dd, dd, dd, dd, dd], []⟩) (fun i => i ≤ l.length) (fun i => idxF p (l.drop i) i) (fun i => l.length - i) 0 (Gh.fgt ?_) (Nat.zero_le _) ?_
  · simp only [fgt_dead, fgt_same, fgt_nil, Int.natCast_zero]
  intro i hi0 hF K hK
  repeat (first | with_reducible refine SeqQ_normal _ _ ?_ | with_reducible refine And.imp_right (SeqQ_normal _ _) ?_ | with_reducible refine And.imp_right (And.imp_right (SeqQ_normal _ _)) ?_ | with_reducible refine And.imp_right (And.imp_right (And.imp_right (SeqQ_normal _ _))) ?_ | rw [awp_seq] | simp only [pkS, TyB,  implies_true, forall_const, Nat.reduceSub, Nat.reduceEqDiff, Nat.reduceAdd, Nat.reduceMul, Nat.reduceLeDiff, Nat.reduceLT, Nat.reduceBEq, reduceCtorEq])
  rw [CondR_bool]
  refine ⟨trivial, fun hlt => ?_, fun hge => ?_⟩
  · have hi : i < l.length := by simpa using hlt
    rw [List.drop_eq_getElem_cons hi, idxF] at hF
    have hat := votes_at hi
    simp only [List.cons_append, List.nil_append] at hat
    repeat (first | with_reducible refine SeqQ_normal _ _ ?_ | with_reducible refine And.imp_right (SeqQ_normal _ _) ?_ | with_reducible refine And.imp_right (And.imp_right (SeqQ_normal _ _)) ?_ | with_reducible refine And.imp_right (And.imp_right (And.imp_right (SeqQ_normal _ _))) ?_ | rw [awp_seq] | simp only [pkS, TyB, votes_len, hat, hc, implies_true, forall_const, Nat.reduceSub, Nat.reduceEqDiff, Nat.reduceAdd, Nat.reduceMul, Nat.reduceLeDiff, Nat.reduceLT, Nat.reduceBEq, reduceCtorEq])
    refine ⟨⟨Int.natCast_nonneg i, by omega⟩, ?_⟩
    refine CallR_of (hp _ (List.getElem_mem hi)) ?_
    repeat (first | with_reducible refine SeqQ_normal _ _ ?_ | with_reducible refine And.imp_right (SeqQ_normal _ _) ?_ | with_reducible refine And.imp_right (And.imp_right (SeqQ_normal _ _)) ?_ | with_reducible refine And.imp_right (And.imp_right (And.imp_right (SeqQ_normal _ _))) ?_ | rw [awp_seq] | simp only [pkS, TyB,  implies_true, forall_const, Nat.reduceSub, Nat.reduceEqDiff, Nat.reduceAdd, Nat.reduceMul, Nat.reduceLeDiff, Nat.reduceLT, Nat.reduceBEq, reduceCtorEq])
    refine CondR_of (fun hb => ?_) (fun hb => ?_)
    · rw [if_pos hb] at hF
      repeat (first | with_reducible refine SeqQ_normal _ _ ?_ | with_reducible refine And.imp_right (SeqQ_normal _ _) ?_ | with_reducible refine And.imp_right (And.imp_right (SeqQ_normal _ _)) ?_ | with_reducible refine And.imp_right (And.imp_right (And.imp_right (SeqQ_normal _ _))) ?_ | rw [awp_seq] | simp only [pkS, TyB,  implies_true, forall_const, Nat.reduceSub, Nat.reduceEqDiff, Nat.reduceAdd, Nat.reduceMul, Nat.reduceLeDiff, Nat.reduceLT, Nat.reduceBEq, reduceCtorEq])
      rw [hF]; rfl
    · rw [if_neg (by simp [hb])] at hF
      repeat (first | with_reducible refine SeqQ_normal _ _ ?_ | with_reducible refine And.imp_right (SeqQ_normal _ _) ?_ | with_reducible refine And.imp_right (And.imp_right (SeqQ_normal _ _)) ?_ | with_reducible refine And.imp_right (And.imp_right (And.imp_right (SeqQ_normal _ _))) ?_ | rw [awp_seq] | simp only [pkS, TyB,  implies_true, forall_const, Nat.reduceSub, Nat.reduceEqDiff, Nat.reduceAdd, Nat.reduceMul, Nat.reduceLeDiff, Nat.reduceLT, Nat.reduceBEq, reduceCtorEq])
      refine hK _ (i + 1) (Gh.fgt ?_) hi (by simp only [List.drop_eq_getElem_cons hi, idxF]; rw [if_neg (by simp [hb])]; rfl) (by omega)
      have hw : IntKind.i64.wrap ((i : Int) + 1) = ((i + 1 : Nat) : Int) := by rw [wrap64 (by omega) (by omega)]; rfl
      simp only [hw, fgt_dead, fgt_same, fgt_nil]
  · have hi : i = l.length := by
      have : ¬ (i : Int) < l.length := by simpa using hge
      omega
    rw [hi, List.drop_length, idxF] at hF
    repeat (first | with_reducible refine SeqQ_normal _ _ ?_ | with_reducible refine And.imp_right (SeqQ_normal _ _) ?_ | with_reducible refine And.imp_right (And.imp_right (SeqQ_normal _ _)) ?_ | with_reducible refine And.imp_right (And.imp_right (And.imp_right (SeqQ_normal _ _))) ?_ | rw [awp_seq] | simp only [pkS, TyB,  implies_true, forall_const, Nat.reduceSub, Nat.reduceEqDiff, Nat.reduceAdd, Nat.reduceMul, Nat.reduceLeDiff, Nat.reduceLT, Nat.reduceBEq, reduceCtorEq])
    rw [hF]; rfl
theorem clone_vote (n : Nat) (L : List D) (hL : L.length = n * 8) (hn : n < 2 ^ 40) : CallOK Tryz.prog 54 [.f (al n L)] (fun r o => r = [.one (.own 8 n L false)] ∧ o = []) := by
  refine CallOK.nil ?_
  refine callOK_of TOKTy mixed (T := Ty) (n := 8) Tryz.func54 (c := Tryz.f54.body.getD .skip) rfl Tryz.results54 Tryz.ntmps54 Tryz.call54 ?_
  simp only [Tryz.f54, Option.getD]
  rcases Nat.eq_zero_or_pos n with rfl | hp
  · obtain rfl : L = [] := List.eq_nil_of_length_eq_zero (by omega)
    repeat (first | with_reducible refine SeqQ_normal _ _ ?_ | with_reducible refine And.imp_right (SeqQ_normal _ _) ?_ | with_reducible refine And.imp_right (And.imp_right (SeqQ_normal _ _)) ?_ | with_reducible refine And.imp_right (And.imp_right (And.imp_right (SeqQ_normal _ _))) ?_ | rw [awp_seq] | simp only [pkS, TyB, Option.map_some, CondR_ab, toDs0, Nat.mul_one, implies_true, forall_const, Nat.reduceSub, Nat.reduceEqDiff, Nat.reduceAdd, Nat.reduceMul, Nat.reduceLeDiff, Nat.reduceLT, Nat.reduceBEq, reduceCtorEq])
    refine ⟨?_, ?_, ?_⟩
    · repeat (first | with_reducible refine SeqQ_normal _ _ ?_ | with_reducible refine And.imp_right (SeqQ_normal _ _) ?_ | with_reducible refine And.imp_right (And.imp_right (SeqQ_normal _ _)) ?_ | with_reducible refine And.imp_right (And.imp_right (And.imp_right (SeqQ_normal _ _))) ?_ | rw [awp_seq] | simp only [pkS, TyB, List.map_nil, implies_true, forall_const, Nat.reduceSub, Nat.reduceEqDiff, Nat.reduceAdd, Nat.reduceMul, Nat.reduceLeDiff, Nat.reduceLT, Nat.reduceBEq, reduceCtorEq])
      simp [rfs1, roLe]
    · simp
    · repeat (first | with_reducible refine SeqQ_normal _ _ ?_ | with_reducible refine And.imp_right (SeqQ_normal _ _) ?_ | with_reducible refine And.imp_right (And.imp_right (SeqQ_normal _ _)) ?_ | with_reducible refine And.imp_right (And.imp_right (And.imp_right (SeqQ_normal _ _))) ?_ | rw [awp_seq] | simp only [pkS, TyB, List.map_nil, implies_true, forall_const, Nat.reduceSub, Nat.reduceEqDiff, Nat.reduceAdd, Nat.reduceMul, Nat.reduceLeDiff, Nat.reduceLT, Nat.reduceBEq, reduceCtorEq])
      simp [rfs1, roLe]
  · have h0 : n ≠ 0 := by omega
    have h1 : L ≠ [] := fun h => by rw [h] at hL; simp at hL; omega
    repeat (first | with_reducible refine SeqQ_normal _ _ ?_ | with_reducible refine And.imp_right (SeqQ_normal _ _) ?_ | with_reducible refine And.imp_right (And.imp_right (SeqQ_normal _ _)) ?_ | with_reducible refine And.imp_right (And.imp_right (And.imp_right (SeqQ_normal _ _))) ?_ | rw [awp_seq] | simp only [pkS, TyB, Option.map_some, CondR_ab, toDs0, h0, h1, Nat.mul_one, implies_true, forall_const, Nat.reduceSub, Nat.reduceEqDiff, Nat.reduceAdd, Nat.reduceMul, Nat.reduceLeDiff, Nat.reduceLT, Nat.reduceBEq, reduceCtorEq])
    refine ⟨trivial, fun hb => by simp at hb, fun hb => ?_⟩
    repeat (first | with_reducible refine SeqQ_normal _ _ ?_ | with_reducible refine And.imp_right (SeqQ_normal _ _) ?_ | with_reducible refine And.imp_right (And.imp_right (SeqQ_normal _ _)) ?_ | with_reducible refine And.imp_right (And.imp_right (And.imp_right (SeqQ_normal _ _))) ?_ | rw [awp_seq] | simp only [pkS, TyB, Option.map_some, CondR_ab, toDs0, h0, h1, List.map_nil, List.nil_append, toDs_map, Nat.mul_one, implies_true, forall_const, Nat.reduceSub, Nat.reduceEqDiff, Nat.reduceAdd, Nat.reduceMul, Nat.reduceLeDiff, Nat.reduceLT, Nat.reduceBEq, reduceCtorEq])
    refine ⟨by simp, ⟨hL, by omega⟩, ?_⟩
    simp [rfs1, roLe]
set_option maxHeartbeats 1000000 in
theorem bsearch_prom (l : List Prom) (hl : l.length < 2 ^ 62) (t : Int) (c : Prom → Int) (f : Nat) (m : Nat) (hm : m ≤ l.length) (h1 : ∀ j (hj : j < l.length), j < m → c l[j] < 0) (h2 : ∀ j (hj : j < l.length), m ≤ j → 0 ≤ c l[j])
    (hp : ∀ x ∈ l, CallOK Tryz.prog f [.f (promAV x), .f (ai t)] (fun r o => r = [ri (c x)] ∧ o = [])) :
    CallOK Tryz.prog 36 [.f (al l.length (promisesE l)), .f (ai t), .f (.one (.clos f []))] (fun r o => r = [ri m, rb ((l[m]?.map fun x => c x == 0).getD false)] ∧ o = []) := by
  refine callOK_of TOKTy mixed (T := Ty) (n := 49) Tryz.func36 (c := Tryz.f36.body.getD .skip) rfl Tryz.results36 Tryz.ntmps36 Tryz.call36 ?_
  simp only [Tryz.f36, Option.getD]
  repeat (first | with_reducible refine SeqQ_normal _ _ ?_ | with_reducible refine And.imp_right (SeqQ_normal _ _) ?_ | with_reducible refine And.imp_right (And.imp_right (SeqQ_normal _ _)) ?_ | with_reducible refine And.imp_right (And.imp_right (And.imp_right (SeqQ_normal _ _))) ?_ | rw [awp_seq] | simp only [pkS, TyB,  implies_true, forall_const, Nat.reduceSub, Nat.reduceEqDiff, Nat.reduceAdd, Nat.reduceMul, Nat.reduceLeDiff, Nat.reduceLT, Nat.reduceBEq, reduceCtorEq])
  refine LoopR_fn (τ := Nat × Nat) (fun q => ⟨[al l.length (promisesE l), ai t, .one (.clos f []), dd, dd, dd, dd, dd, ai l.length, ai q.1, ai q.2, dd, dd, dd, dd, dd, dd, dd, dd, dd, dd, dd, dd, dd, dd, dd, dd, dd, dd, dd, dd, dd, dd, dd, dd, dd, dd, dd, dd, dd, dd, dd, dd, dd, dd, dd, dd, dd, dd], []⟩) (fun q => q.1 ≤ m ∧ m ≤ q.2 ∧ q.2 ≤ l.length) (fun _ => ()) (fun q => q.2 - q.1) (0, l.length) (Gh.fgt ?_) ⟨Nat.zero_le _, hm, Nat.le_refl _⟩ ?_
  · simp only [fgt_dead, fgt_same, fgt_nil, Int.natCast_zero]
  intro ⟨lo, hi⟩ ⟨b1, b2, b3⟩ hF K hK
  simp only at b1 b2 b3 hF hK ⊢
  repeat (first | with_reducible refine SeqQ_normal _ _ ?_ | with_reducible refine And.imp_right (SeqQ_normal _ _) ?_ | with_reducible refine And.imp_right (And.imp_right (SeqQ_normal _ _)) ?_ | with_reducible refine And.imp_right (And.imp_right (And.imp_right (SeqQ_normal _ _))) ?_ | rw [awp_seq] | simp only [pkS, TyB,  implies_true, forall_const, Nat.reduceSub, Nat.reduceEqDiff, Nat.reduceAdd, Nat.reduceMul, Nat.reduceLeDiff, Nat.reduceLT, Nat.reduceBEq, reduceCtorEq])
  refine CondR_of (fun hlt => ?_) (fun hge => ?_)
  · have hlt : lo < hi := by simpa using hlt
    obtain ⟨q, hq⟩ : ∃ q : Nat, q = (lo + hi) / 2 := ⟨_, rfl⟩
    have hw1 : IntKind.i64.wrap ((lo : Int) + hi) = ((lo + hi : Nat) : Int) := by rw [wrap64 (by omega) (by omega)]; rfl
    have hw2 : IntKind.u64.wrap ((lo + hi : Nat) : Int) = ((lo + hi : Nat) : Int) := wrapU64' (by omega)
    have hw3 : IntKind.i64.wrap (((lo + hi : Nat) : Int).fdiv (2 ^ (min (Int.toNat 1) IntKind.u64.bits))) = (q : Int) := by
      rw [show (2 : Int) ^ (min (Int.toNat 1) IntKind.u64.bits) = 2 by decide, hq, show (((lo + hi : Nat) : Int)).fdiv 2 = (((lo + hi) / 2 : Nat) : Int) by rw [Int.fdiv_eq_ediv_of_nonneg _ (by decide)]; rfl]
      exact wrap64 (by omega) (by omega)
    have hqh : q < hi := by omega
    have hql : q < l.length := by omega
    have hat := promises_at hql
    simp only [List.cons_append, List.nil_append] at hat
    have hcp := hp _ (List.getElem_mem hql)
    have hw4 : IntKind.i64.wrap ((q : Int) + 1) = ((q + 1 : Nat) : Int) := by rw [wrap64 (by omega) (by omega)]; rfl
    have h10 : ∀ (a b : Option Value), (if (1 : Int) < 0 then a else b) = b := fun a b => if_neg (by decide)
    clear hlt
    repeat' (first | with_reducible refine SeqQ_normal _ _ ?_ | rw [awp_seq] | simp only [pkS, TyB, h10, hw1, hw2, hw3, promises_len, hat, Nat.mul_one, implies_true, forall_const, Nat.reduceSub, Nat.reduceEqDiff, Nat.reduceAdd, Nat.reduceMul, Nat.reduceLeDiff, Nat.reduceLT, Nat.reduceBEq, reduceCtorEq] | ((try refine CallRG_tt ?_); apply CallR_of; (solve | exact (hcp) | (refine CallOK.le (hcp) ?_; simp [argsLe, aLe, csLe, cLe]))) | (apply CallRG_of; (focus (intro _; (solve | exact (hcp) | (refine CallOK.le (hcp) ?_; simp [argsLe, aLe, csLe, cLe])))); (focus rfl)) | refine CallRG_no ?_ | refine CondR_of (fun hb => ?_) (fun hb => ?_) | (refine And.intro ?_ ?_; focus ((try with_reducible refine GIm_of ?_); first | (with_reducible rfl) | ((with_reducible first | refine rng_of ?_ | refine ordOK_of ?_ | refine chk_of ?_); kernel_rfl) | (intros; omega) | (intro q p; rw [q, p]; rfl) | (intro q; rw [q]; rfl) | (intro q; simp only [Bool.and_eq_true, decide_eq_true_eq, beq_iff_eq] at q; omega) | (intros; simp_all; done) | (intros; simp [List.range, List.range.loop]; done) | (intros; simp_all [List.range, List.range.loop]; done))) | refine And.intro (fun hg => ?_) (fun hg => ?_) | (with_reducible refine chk_of ?_; kernel_rfl) | fail)
    · have hqm : q < m := by
        rcases Nat.lt_or_ge q m with h | h
        · exact h
        · have := h2 q hql h
          have hb' : c l[q] < 0 := by simpa using hb
          omega
      refine hK _ (q + 1, hi) (Gh.fgt ?_) ⟨by simp only; omega, b2, b3⟩ trivial (by simp only; omega)
      simp only [hw4, fgt_dead, fgt_same, fgt_nil]
    · have hqm : m ≤ q := by
        rcases Nat.lt_or_ge q m with h | h
        · have := h1 q hql h
          have hb' : ¬ c l[q] < 0 := by simpa using hb
          omega
        · exact h
      refine hK _ (lo, q) (Gh.fgt ?_) ⟨b1, hqm, by simp only; omega⟩ trivial (by simp only; omega)
      simp only [fgt_dead, fgt_same, fgt_nil]
  · have he : lo = m := by
      have : ¬ (lo : Int) < hi := by simpa using hge
      omega
    subst he
    by_cases hlt : lo < l.length
    · have hat := promises_at hlt
      simp only [List.cons_append, List.nil_append] at hat
      have hcp := hp _ (List.getElem_mem hlt)
      have hd : decide ((lo : Int) < l.length) = true := by simpa using hlt
      repeat' (first | with_reducible refine SeqQ_normal _ _ ?_ | rw [awp_seq] | simp only [pkS, TyB, hd, promises_len, hat, Nat.mul_one, implies_true, forall_const, Nat.reduceSub, Nat.reduceEqDiff, Nat.reduceAdd, Nat.reduceMul, Nat.reduceLeDiff, Nat.reduceLT, Nat.reduceBEq, reduceCtorEq] | ((try refine CallRG_tt ?_); apply CallR_of; (solve | exact (hcp) | (refine CallOK.le (hcp) ?_; simp [argsLe, aLe, csLe, cLe]))) | (apply CallRG_of; (focus (intro _; (solve | exact (hcp) | (refine CallOK.le (hcp) ?_; simp [argsLe, aLe, csLe, cLe])))); (focus rfl)) | refine CallRG_no ?_ | refine CondR_of (fun hb => ?_) (fun hb => ?_) | (refine And.intro ?_ ?_; focus ((try with_reducible refine GIm_of ?_); first | (with_reducible rfl) | ((with_reducible first | refine rng_of ?_ | refine ordOK_of ?_ | refine chk_of ?_); kernel_rfl) | (intros; omega) | (intro q p; rw [q, p]; rfl) | (intro q; rw [q]; rfl) | (intro q; simp only [Bool.and_eq_true, decide_eq_true_eq, beq_iff_eq] at q; omega) | (intros; simp_all; done) | (intros; simp [List.range, List.range.loop]; done) | (intros; simp_all [List.range, List.range.loop]; done))) | refine And.intro (fun hg => ?_) (fun hg => ?_) | (with_reducible refine chk_of ?_; kernel_rfl) | fail)
      rw [List.getElem?_eq_getElem hlt]; rfl
    · have hd : decide ((lo : Int) < l.length) = false := by simp; omega
      have hn : l[lo]? = none := List.getElem?_eq_none (by omega)
      repeat' (first | with_reducible refine SeqQ_normal _ _ ?_ | rw [awp_seq] | simp only [pkS, TyB, hd, promises_len, Nat.mul_one, hn, bad_x, Option.map_none, implies_true, forall_const, Nat.reduceSub, Nat.reduceEqDiff, Nat.reduceAdd, Nat.reduceMul, Nat.reduceLeDiff, Nat.reduceLT, Nat.reduceBEq, reduceCtorEq] | refine CallRG_no ?_ | refine CondR_of (fun hb => ?_) (fun hb => ?_) | (refine And.intro ?_ ?_; focus ((try with_reducible refine GIm_of ?_); first | (with_reducible rfl) | ((with_reducible first | refine rng_of ?_ | refine ordOK_of ?_ | refine chk_of ?_); kernel_rfl) | (intros; omega) | (intro q p; rw [q, p]; rfl) | (intro q; rw [q]; rfl) | (intro q; simp only [Bool.and_eq_true, decide_eq_true_eq, beq_iff_eq] at q; omega) | (intros; simp_all; done) | (intros; simp [List.range, List.range.loop]; done) | (intros; simp_all [List.range, List.range.loop]; done))) | refine And.intro (fun hg => ?_) (fun hg => ?_) | (with_reducible refine chk_of ?_; kernel_rfl) | fail)
set_option maxHeartbeats 2000000 in
theorem delf_vote (l : List Vote) (hl : l.length < 2 ^ 40) (p : Vote → Bool) (f : Nat) (caps : List C) (hc2 : ∀ r, lendC.lendCs r caps = some caps) (hc3 : ∀ r, lendAs r (caps.map AV.one) = some (caps.map fun c => .f (.one c)))
    (hcur : ∀ Z r, curCs Z r caps = true) (hcan : ∀ Z, canCs Z caps = caps)
    (hp : ∀ x ∈ l, CallOK Tryz.prog f (.f (voteAV x) :: caps.map fun c => .f (.one c)) (fun r o => r = [rb (p x)] ∧ o = [])) :
    CallOK Tryz.prog 48 [.row 8 l.length (votesE l), .f (.one (.clos f caps))]
      (fun r o => r = [.one (.own 8 (l.filter fun x => !p x).length (votesE (l.filter fun x => !p x)) true)] ∧ o = [[]]) := by
  refine CallOK.wk ?_ (by rw [votes_len]; omega)
  refine callOK_of TOKTy mixed (T := Ty) (n := 42) Tryz.func48 (c := Tryz.f48.body.getD .skip) rfl Tryz.results48 Tryz.ntmps48 Tryz.call48 ?_
  simp only [Tryz.f48, Option.getD]
  have hix := index_vote l (by omega) p f caps (hc3 []) hp
  have hfc : ∀ Z r xs ys, fgc Z r (.one (.clos f caps) :: xs) (.one (.clos f caps) :: ys) = fgc Z r xs ys := fun Z r xs ys => fgc_cons (by simp [curA, curC, hcur]) (by simp [canA, canC, hcan])
  rcases idxF_nat p l 0 with ⟨h1, h2⟩ | ⟨k, hk, h1, h2, h3⟩
  · have hfil : l.filter (fun x => !p x) = l := List.filter_eq_self.2 fun x hx => by rw [h1 x hx]; rfl
    rw [hfil]
    rw [show ((0 : Nat) : Int) = 0 from rfl] at h2
    rw [h2] at hix
    repeat' (first | (with_reducible first | refine SeqQ_normal _ _ ?_ | refine CondR_tt ?_ | refine CondR_ff ?_) | rw [awp_seq] | simp only [pkS, TyB, hc2, beq_self_eq_true, pkY, Int.reduceEq, bne_self_eq_false, Int.reduceBEq, Int.reduceBNe, implies_true, forall_const, Nat.reduceSub, Nat.reduceEqDiff, Nat.reduceAdd, Nat.reduceMul, Nat.reduceLeDiff, Nat.reduceLT, Nat.reduceBEq, reduceCtorEq] | ((try refine CallRG_tt ?_); apply CallR_of; (solve | exact (hix) | (refine CallOK.le (hix) ?_; simp [argsLe, aLe, csLe, cLe]))) | (apply CallRG_of; (focus (intro _; (solve | exact (hix) | (refine CallOK.le (hix) ?_; simp [argsLe, aLe, csLe, cLe])))); (focus rfl)) | refine CallRG_no ?_ | refine CondR_of (fun hb => ?_) (fun hb => ?_) | (refine And.intro ?_ ?_; focus ((try with_reducible refine GIm_of ?_); first | (with_reducible rfl) | ((with_reducible first | refine rng_of ?_ | refine ordOK_of ?_ | refine chk_of ?_); kernel_rfl) | (intros; omega) | (intro q p; rw [q, p]; rfl) | (intro q; rw [q]; rfl) | (intro q; simp only [Bool.and_eq_true, decide_eq_true_eq, beq_iff_eq] at q; omega) | (intros; simp_all; done) | (intros; simp [List.range, List.range.loop]; done) | (intros; simp_all [List.range, List.range.loop]; done))) | refine And.intro (fun hg => ?_) (fun hg => ?_) | (with_reducible refine chk_of ?_; kernel_rfl) | fail)
    exact ⟨[], _, by rw [List.append_nil], .inl trivial⟩
  · rw [show ((0 : Nat) : Int) = 0 from rfl, Nat.zero_add] at h1
    rw [h1] at hix
    have hne : ((k : Int) == -1) = false := by simp
    have hw0 := i64_succ hk (by omega)
    repeat' (first | (with_reducible first | refine SeqQ_normal _ _ ?_ | refine CondR_tt ?_ | refine CondR_ff ?_) | rw [awp_seq] | simp only [pkS, TyB, hc2, hne, hw0, pkY, Int.reduceEq, bne_self_eq_false, Int.reduceBEq, Int.reduceBNe, implies_true, forall_const, Nat.reduceSub, Nat.reduceEqDiff, Nat.reduceAdd, Nat.reduceMul, Nat.reduceLeDiff, Nat.reduceLT, Nat.reduceBEq, reduceCtorEq] | ((try refine CallRG_tt ?_); apply CallR_of; (solve | exact (hix) | (refine CallOK.le (hix) ?_; simp [argsLe, aLe, csLe, cLe]))) | (apply CallRG_of; (focus (intro _; (solve | exact (hix) | (refine CallOK.le (hix) ?_; simp [argsLe, aLe, csLe, cLe])))); (focus rfl)) | refine CallRG_no ?_ | refine CondR_of (fun hb => ?_) (fun hb => ?_) | (refine And.intro ?_ ?_; focus ((try with_reducible refine GIm_of ?_); first | (with_reducible rfl) | ((with_reducible first | refine rng_of ?_ | refine ordOK_of ?_ | refine chk_of ?_); kernel_rfl) | (intros; omega) | (intro q p; rw [q, p]; rfl) | (intro q; rw [q]; rfl) | (intro q; simp only [Bool.and_eq_true, decide_eq_true_eq, beq_iff_eq] at q; omega) | (intros; simp_all; done) | (intros; simp [List.range, List.range.loop]; done) | (intros; simp_all [List.range, List.range.loop]; done))) | refine And.intro (fun hg => ?_) (fun hg => ?_) | (with_reducible refine chk_of ?_; kernel_rfl) | fail)
    refine LoopR_fn (τ := Nat × Nat × List Vote) (fun t => ⟨[.one (.own ⟨0, 1, 0⟩ 0 l.length), .one (.clos f caps), dd, dd, dd, ai t.1, ai t.2.1, dd, dd, dd, dd, dd, dd, dd, dd, dd, dd, dd, dd, dd, dd, dd, dd, dd, dd, dd, dd, dd, dd, dd, dd, dd, dd, dd, dd, dd, dd, dd, dd, dd, dd, dd], [(0, { next := 1, l := [none, some { e := 0, var := false, fz := false, bor := true, sz := 8, cells := (votesE t.2.2).map C.d }] }), (7, ⟨2, []⟩)]⟩)
      (fun t => t.1 < t.2.1 ∧ t.2.1 ≤ l.length ∧ t.2.2.length = l.length ∧ t.2.2.take t.1 = (l.take t.2.1).filter (fun x => !p x) ∧ t.2.2.drop t.2.1 = l.drop t.2.1) (fun _ => ()) (fun t => l.length - t.2.1) (k, k + 1, l)
      (Gh.canon [0] [7] [0] (by simp only [hfc, fgc_dead, fgc_dv, fgc_lent, fgc_nil, fgc_ptr, fgc_own, List.set_cons_zero, List.set_cons_succ, and_true, true_and, Int.natCast_zero, Int.cast_ofNat_Int, D.v.injEq, Value.int.injEq]; try (repeat' (first | rfl | omega | with_reducible apply And.intro))) rfl rfl) ⟨Nat.lt_succ_self _, hk, rfl, ?_, rfl⟩ ?_
    · rw [List.take_add_one, List.filter_append, List.getElem?_eq_getElem hk]
      simp only [Option.toList, List.filter_cons, h2, List.filter_nil]
      simp only [Bool.not_true, Bool.false_eq_true, if_false, List.append_nil]
      exact (List.filter_eq_self.2 fun x hx => by rw [h3 x hx]; rfl).symm
    intro ⟨i, j, L⟩ ⟨j1, j2, j3, j4, j5⟩ hF K hK
    simp only at j1 j2 j3 j4 j5 hF hK ⊢
    repeat (first | with_reducible refine SeqQ_normal _ _ ?_ | with_reducible refine And.imp_right (SeqQ_normal _ _) ?_ | with_reducible refine And.imp_right (And.imp_right (SeqQ_normal _ _)) ?_ | with_reducible refine And.imp_right (And.imp_right (And.imp_right (SeqQ_normal _ _))) ?_ | rw [awp_seq] | simp only [pkS, TyB,  implies_true, forall_const, Nat.reduceSub, Nat.reduceEqDiff, Nat.reduceAdd, Nat.reduceMul, Nat.reduceLeDiff, Nat.reduceLT, Nat.reduceBEq, reduceCtorEq])
    refine CondR_of (fun hlt => ?_) (fun hge => ?_)
    · have hj : j < l.length := by simpa using hlt
      have hjL : j < L.length := by omega
      have hLj : L[j] = l[j] := by
        have e1 := List.drop_eq_getElem_cons hjL
        rw [j5, List.drop_eq_getElem_cons hj] at e1
        exact (List.cons.inj e1).1.symm
      have hat := votes_at hjL
      rw [hLj] at hat
      simp only [List.cons_append, List.nil_append] at hat
      have hcp := hp _ (List.getElem_mem hj)
      have hwj := i64_succ hj (by omega)
      have hwi := i64_succ (show i < l.length by omega) (by omega)
      have hset := fill_enc Vote.enc 8 (fun _ => rfl) (show i < L.length by omega) l[j]
      simp only [fillAt, List.map_cons, List.map_nil, Nat.mul_one] at hset
      have htk : (l.take (j + 1)).filter (fun x => !p x) = (l.take j).filter (fun x => !p x) ++ (if p l[j] = true then [] else [l[j]]) := by
        rw [List.take_add_one, List.filter_append, List.getElem?_eq_getElem hj]
        simp only [Option.toList, List.filter_cons, List.filter_nil]
        cases p l[j] <;> simp
      cases hpj : p l[j]
      · rw [hpj] at hcp htk
        repeat' (first | (with_reducible first | refine SeqQ_normal _ _ ?_ | refine CondR_tt ?_ | refine CondR_ff ?_) | rw [awp_seq] | simp only [pkS, TyB, hc3, ← List.map_drop, hat, List.map_cons, votes_len, j3, Bool.not_false, hset, pkY, Int.reduceEq, bne_self_eq_false, Int.reduceBEq, Int.reduceBNe, implies_true, forall_const, Nat.reduceSub, Nat.reduceEqDiff, Nat.reduceAdd, Nat.reduceMul, Nat.reduceLeDiff, Nat.reduceLT, Nat.reduceBEq, reduceCtorEq] | ((try refine CallRG_tt ?_); apply CallR_of; (solve | exact (hcp) | (refine CallOK.le (hcp) ?_; simp [argsLe, aLe, csLe, cLe]))) | (apply CallRG_of; (focus (intro _; (solve | exact (hcp) | (refine CallOK.le (hcp) ?_; simp [argsLe, aLe, csLe, cLe])))); (focus rfl)) | refine CallRG_no ?_ | refine CondR_of (fun hb => ?_) (fun hb => ?_) | (refine And.intro ?_ ?_; focus ((try with_reducible refine GIm_of ?_); first | (with_reducible rfl) | ((with_reducible first | refine rng_of ?_ | refine ordOK_of ?_ | refine chk_of ?_); kernel_rfl) | (intros; omega) | (intro q p; rw [q, p]; rfl) | (intro q; rw [q]; rfl) | (intro q; simp only [Bool.and_eq_true, decide_eq_true_eq, beq_iff_eq] at q; omega) | (intros; simp_all; done) | (intros; simp [List.range, List.range.loop]; done) | (intros; simp_all [List.range, List.range.loop]; done))) | refine And.intro (fun hg => ?_) (fun hg => ?_) | (with_reducible refine chk_of ?_; kernel_rfl) | fail)
        refine hK _ (i + 1, j + 1, L.set i l[j]) (Gh.canon [0] [] [0] (by simp only [hfc, hwi, hwj, fgc_dead, fgc_dv, fgc_lent, fgc_nil, fgc_ptr, fgc_own, List.set_cons_zero, List.set_cons_succ, and_true, true_and, Int.natCast_zero, Int.cast_ofNat_Int, D.v.injEq, Value.int.injEq]; try (repeat' (first | rfl | omega | with_reducible apply And.intro))) rfl rfl) ⟨by simp only; omega, hj, by simp only [List.length_set]; exact j3, ?_, ?_⟩ trivial (by simp only; omega)
        · simp only
          rw [take_set_succ (by omega), htk, j4]; rfl
        · simp only
          rw [drop_set_lt (by omega), ← List.drop_drop, j5, List.drop_drop]
      · rw [hpj] at hcp htk
        repeat' (first | (with_reducible first | refine SeqQ_normal _ _ ?_ | refine CondR_tt ?_ | refine CondR_ff ?_) | rw [awp_seq] | simp only [pkS, TyB, hc3, ← List.map_drop, hat, List.map_cons, votes_len, j3, Bool.not_true, pkY, Int.reduceEq, bne_self_eq_false, Int.reduceBEq, Int.reduceBNe, implies_true, forall_const, Nat.reduceSub, Nat.reduceEqDiff, Nat.reduceAdd, Nat.reduceMul, Nat.reduceLeDiff, Nat.reduceLT, Nat.reduceBEq, reduceCtorEq] | ((try refine CallRG_tt ?_); apply CallR_of; (solve | exact (hcp) | (refine CallOK.le (hcp) ?_; simp [argsLe, aLe, csLe, cLe]))) | (apply CallRG_of; (focus (intro _; (solve | exact (hcp) | (refine CallOK.le (hcp) ?_; simp [argsLe, aLe, csLe, cLe])))); (focus rfl)) | refine CallRG_no ?_ | refine CondR_of (fun hb => ?_) (fun hb => ?_) | (refine And.intro ?_ ?_; focus ((try with_reducible refine GIm_of ?_); first | (with_reducible rfl) | ((with_reducible first | refine rng_of ?_ | refine ordOK_of ?_ | refine chk_of ?_); kernel_rfl) | (intros; omega) | (intro q p; rw [q, p]; rfl) | (intro q; rw [q]; rfl) | (intro q; simp only [Bool.and_eq_true, decide_eq_true_eq, beq_iff_eq] at q; omega) | (intros; simp_all; done) | (intros; simp [List.range, List.range.loop]; done) | (intros; simp_all [List.range, List.range.loop]; done))) | refine And.intro (fun hg => ?_) (fun hg => ?_) | (with_reducible refine chk_of ?_; kernel_rfl) | fail)
        refine hK _ (i, j + 1, L) (Gh.canon [0] [] [0] (by simp only [hfc, hwj, fgc_dead, fgc_dv, fgc_lent, fgc_nil, fgc_ptr, fgc_own, List.set_cons_zero, List.set_cons_succ, and_true, true_and, Int.natCast_zero, Int.cast_ofNat_Int, D.v.injEq, Value.int.injEq]; try (repeat' (first | rfl | omega | with_reducible apply And.intro))) rfl rfl) ⟨by simp only; omega, hj, j3, ?_, ?_⟩ trivial (by simp only; omega)
        · simp only
          rw [htk, j4]; simp
        · simp only
          rw [← List.drop_drop, j5, List.drop_drop]
    · have hj : j = l.length := by
        have : ¬ (j : Int) < l.length := by simpa using hge
        omega
      subst hj
      rw [List.take_length] at j4
      obtain ⟨fl, hfl⟩ : ∃ fl, fl = l.filter (fun x => !p x) := ⟨_, rfl⟩
      rw [← hfl] at j4
      have hfll : fl.length = i := by rw [← j4, List.length_take]; omega
      obtain ⟨Z, hZ⟩ : ∃ Z, Z = zeroD [.int .i64 0, .int .i64 0, .bool false, .int .i64 0, .int .i64 0, .int .i64 0, .int .i64 0, .slice none 0 0] (l.length - i) := ⟨_, rfl⟩
      have hZl : Z.length = (l.length - i) * 8 := by rw [hZ, zeroD_len]; rfl
      have etk : (votesE L).take (i * 8) = votesE fl := by
        have := enc_takeN Vote.enc 8 (fun _ => rfl) (show i ≤ L.length by omega)
        rw [← j4]; exact this
      have hLl : (votesE L).length = l.length * 8 := by rw [votes_len, j3]
      have e2 : List.take (i * 8) (List.map C.d (votesE L)) ++ List.map C.d Z ++ List.drop (i * 8 + Z.length) (List.map C.d (votesE L)) = List.map C.d (votesE fl ++ Z) := by
        rw [← List.map_take, etk, List.drop_of_length_le (by rw [List.length_map]; omega)]; simp
      rw [← hfl, hfll]
      repeat' (first | (with_reducible first | refine SeqQ_normal _ _ ?_ | refine CondR_tt ?_ | refine CondR_ff ?_) | rw [awp_seq] | simp only [pkS, TyB, j3, votes_len, ← hZ, e2, pkY, Int.reduceEq, bne_self_eq_false, Int.reduceBEq, Int.reduceBNe, implies_true, forall_const, Nat.reduceSub, Nat.reduceEqDiff, Nat.reduceAdd, Nat.reduceMul, Nat.reduceLeDiff, Nat.reduceLT, Nat.reduceBEq, reduceCtorEq] | refine CallRG_no ?_ | refine CondR_of (fun hb => ?_) (fun hb => ?_) | (refine And.intro ?_ ?_; focus ((try with_reducible refine GIm_of ?_); first | (with_reducible rfl) | ((with_reducible first | refine rng_of ?_ | refine ordOK_of ?_ | refine chk_of ?_); kernel_rfl) | (intros; omega) | (intro q p; rw [q, p]; rfl) | (intro q; rw [q]; rfl) | (intro q; simp only [Bool.and_eq_true, decide_eq_true_eq, beq_iff_eq] at q; omega) | (intros; simp_all; done) | (intros; simp [List.range, List.range.loop]; done) | (intros; simp_all [List.range, List.range.loop]; done))) | refine And.intro (fun hg => ?_) (fun hg => ?_) | (with_reducible refine chk_of ?_; kernel_rfl) | fail)
      exact ⟨Z, _, rfl, .inl trivial⟩
set_option maxHeartbeats 2000000 in
theorem insProm_ok (n i : Nat) (ds vs : List D) (hd : ds.length = n * 6) (hv : vs.length = 6) (hi : i ≤ n) (hn : n < 2 ^ 30) : CallOK Tryz.prog 38 [.row 6 n ds, .f (ai i), .f (al 1 vs)]
    (fun r o => r = [.one (.own 6 (n + 1) (ds.take (i * 6) ++ (vs ++ ds.drop (i * 6))) true)] ∧ o = [[]]) := by
  refine CallOK.wk ?_ (by simp only [List.length_append, List.length_take, List.length_drop]; omega)
  refine callOK_fam TOKTy mixed (T := Ty) (n := 95) Tryz.func38 (c := Tryz.f38.body.getD .skip) rfl Tryz.results38 Tryz.ntmps38 Tryz.call38 (fun k => ⟨(openG 95 [.row 6 n ds, .f (ai i), .f (al 1 vs)]).v.set 0 (.one (.gap ⟨0, 1, 0⟩ 0 (n) k)), (openG 95 [.row 6 n ds, .f (ai i), .f (al 1 vs)]).r⟩) (fun k => (n) ≤ k) (fun cx a w hh => gap_of hh rfl rfl) ?_
  intro k hk
  simp only [Tryz.f38, Option.getD]
  have hz : (((1 : Nat) : Int) == 0) = false := rfl
  have hw1 : IntKind.i64.wrap ((n : Int) + ((1 : Nat) : Int)) = ((n + 1 : Nat) : Int) := by rw [wrap64 (by omega) (by omega)]; rfl
  have hw2 : IntKind.i64.wrap (((n + 1 : Nat) : Int) - (i : Int)) = ((n + 1 - i : Nat) : Int) := by rw [wrap64 (by omega) (by omega)]; omega
  have hw3 : IntKind.i64.wrap ((i : Int) + ((1 : Nat) : Int)) = ((i + 1 : Nat) : Int) := by rw [wrap64 (by omega) (by omega)]; rfl
  have ht : ds.take (n * 6) = ds := List.take_of_length_le (by omega)
  have htv : vs.take 6 = vs := List.take_of_length_le (by omega)
  have hcon : (if ([(6, 1)] : List (Nat × Nat)).contains (0, 1) = true then [] else [C.own ⟨0, 1, 0⟩ 0 n]) = [C.own ⟨0, 1, 0⟩ 0 n] := rfl
  by_cases hin : i = n
  · subst hin
    have hb1 : ((i : Int) == (i : Int)) = true := by simp
    have hdr : ds.drop (i * 6) = [] := List.drop_of_length_le (by omega)
    have hla : (ds ++ vs).length = (i + 1) * 6 := by rw [List.length_append]; omega
    by_cases hk1 : i + 1 ≤ k
    · have e1 : ∀ (a b : Out), (if i + 1 ≤ k then a else b) = a := fun a b => if_pos hk1
      repeat' (first | (with_reducible first | refine SeqQ_normal _ _ ?_ | refine CondR_tt ?_ | refine CondR_ff ?_) | rw [awp_seq] | simp only [pkS, TyB, hz, hb1, hd, hv, ht, e1, hdr, hcon, pkY, Int.reduceEq, bne_self_eq_false, Int.reduceBEq, Int.reduceBNe, implies_true, forall_const, Nat.reduceSub, Nat.reduceEqDiff, Nat.reduceAdd, Nat.reduceMul, Nat.reduceLeDiff, Nat.reduceLT, Nat.reduceBEq, reduceCtorEq] | refine CallRG_no ?_ | refine CondR_of (fun hb => ?_) (fun hb => ?_) | (refine And.intro ?_ ?_; focus ((try with_reducible refine GIm_of ?_); first | (with_reducible rfl) | ((with_reducible first | refine rng_of ?_ | refine ordOK_of ?_ | refine chk_of ?_); kernel_rfl) | (intros; omega) | (intro q p; rw [q, p]; rfl) | (intro q; rw [q]; rfl) | (intro q; simp only [Bool.and_eq_true, decide_eq_true_eq, beq_iff_eq] at q; omega) | (intros; simp_all; done) | (intros; simp [List.range, List.range.loop]; done) | (intros; simp_all [List.range, List.range.loop]; done))) | refine And.intro (fun hg => ?_) (fun hg => ?_) | (with_reducible refine chk_of ?_; kernel_rfl) | fail)
      exact ⟨[], _, by rw [List.append_nil], .inl trivial⟩
    · have e1 : ∀ (a b : Out), (if i + 1 ≤ k then a else b) = b := fun a b => if_neg hk1
      repeat' (first | (with_reducible first | refine SeqQ_normal _ _ ?_ | refine CondR_tt ?_ | refine CondR_ff ?_) | rw [awp_seq] | simp only [pkS, TyB, hz, hb1, hd, hv, ht, e1, hdr, hcon, pkY, Int.reduceEq, bne_self_eq_false, Int.reduceBEq, Int.reduceBNe, implies_true, forall_const, Nat.reduceSub, Nat.reduceEqDiff, Nat.reduceAdd, Nat.reduceMul, Nat.reduceLeDiff, Nat.reduceLT, Nat.reduceBEq, reduceCtorEq] | refine CallRG_no ?_ | refine CondR_of (fun hb => ?_) (fun hb => ?_) | (refine And.intro ?_ ?_; focus ((try with_reducible refine GIm_of ?_); first | (with_reducible rfl) | ((with_reducible first | refine rng_of ?_ | refine ordOK_of ?_ | refine chk_of ?_); kernel_rfl) | (intros; omega) | (intro q p; rw [q, p]; rfl) | (intro q; rw [q]; rfl) | (intro q; simp only [Bool.and_eq_true, decide_eq_true_eq, beq_iff_eq] at q; omega) | (intros; simp_all; done) | (intros; simp [List.range, List.range.loop]; done) | (intros; simp_all [List.range, List.range.loop]; done))) | refine And.intro (fun hg => ?_) (fun hg => ?_) | (with_reducible refine chk_of ?_; kernel_rfl) | fail)
      exact ⟨rfl, [], _, by rw [List.append_nil], .inr ⟨_, rfl⟩⟩
  · have hb1 : ((i : Int) == (n : Int)) = false := by simp; omega
    obtain ⟨A, hA⟩ : ∃ A, A = ds.take (i * 6) := ⟨_, rfl⟩
    obtain ⟨Bq, hB⟩ : ∃ B, B = ds.drop (i * 6) := ⟨_, rfl⟩
    have hAl : A.length = i * 6 := by rw [hA, List.length_take]; omega
    have hBl : Bq.length = (n - i) * 6 := by rw [hB, List.length_drop]; omega
    have htB : Bq.take ((n - i) * 6) = Bq := List.take_of_length_le (by omega)
    by_cases hk1 : n + 1 ≤ k
    · have hb2 : decide (((n + 1 : Nat) : Int) > (k : Int)) = false := by simp; omega
      have hm1 : min (n + 1 - i) (n + 1 - (i + 1)) = n - i := by omega
      have hm2 : min 1 (n + 1 - i) = 1 := by omega
      have htB2 : Bq.take ((n + 1 - i) * 6) = Bq := List.take_of_length_le (by omega)
      obtain ⟨A1, hA1⟩ : ∃ A, A = ds.take ((i + 1) * 6) := ⟨_, rfl⟩
      have hA1l : A1.length = (i + 1) * 6 := by rw [hA1, List.length_take]; omega
      have hA1t : A1.take (i * 6) = A := by rw [hA1, hA, List.take_take]; congr 1; omega
      have e1 : List.take ((i + 1) * 6) (List.map C.d ds) ++ List.map C.d Bq ++ List.drop ((i + 1) * 6 + (n - i) * 6) (List.map C.d ds) = List.map C.d (A1 ++ Bq) := by
        rw [← List.map_take, ← List.map_drop, ← hA1, List.drop_of_length_le (by omega)]; simp
      have e2 : List.take (i * 6) (List.map C.d (A1 ++ Bq)) ++ List.map C.d vs ++ List.drop (i * 6 + 6) (List.map C.d (A1 ++ Bq)) = List.map C.d (A ++ (vs ++ Bq)) := by
        rw [← List.map_take, ← List.map_drop, List.take_append_of_le_length (by omega), hA1t, drop_app (by omega)]; simp
      have hl1 : (A1 ++ Bq).length = (n + 1) * 6 := by rw [List.length_append]; omega
      have hl2 : (A ++ (vs ++ Bq)).length = (n + 1) * 6 := by simp only [List.length_append]; omega
      repeat' (first | (with_reducible first | refine SeqQ_normal _ _ ?_ | refine CondR_tt ?_ | refine CondR_ff ?_) | rw [awp_seq] | simp only [pkS, TyB, hz, hb1, hb2, hw1, hw2, hw3, hd, hv, ht, hcon, pkY, Int.reduceEq, bne_self_eq_false, Int.reduceBEq, Int.reduceBNe, implies_true, forall_const, Nat.reduceSub, Nat.reduceEqDiff, Nat.reduceAdd, Nat.reduceMul, Nat.reduceLeDiff, Nat.reduceLT, Nat.reduceBEq, reduceCtorEq] | refine CallRG_no ?_ | refine CondR_of (fun hb => ?_) (fun hb => ?_) | (refine And.intro ?_ ?_; focus ((try with_reducible refine GIm_of ?_); first | (with_reducible rfl) | ((with_reducible first | refine rng_of ?_ | refine ordOK_of ?_ | refine chk_of ?_); kernel_rfl) | (intros; omega) | (intro q p; rw [q, p]; rfl) | (intro q; rw [q]; rfl) | (intro q; simp only [Bool.and_eq_true, decide_eq_true_eq, beq_iff_eq] at q; omega) | (intros; simp_all; done) | (intros; simp [List.range, List.range.loop]; done) | (intros; simp_all [List.range, List.range.loop]; done))) | refine And.intro (fun hg => ?_) (fun hg => ?_) | (with_reducible refine chk_of ?_; kernel_rfl) | fail)
      refine CallE_of (overlaps_ok TOKTy (N := 52) Tryz.func52 (by kernel_rfl) (by kernel_rfl) (by kernel_rfl) (tS := 53) (tR := 4) (by kernel_rfl) (eE := 41) (ei := ⟨6, 64, [.int .i64 0, .int .i64 0, .int .i64 0, .int .i64 0, .int .i64 0, .slice none 0 0], .struct [(0, 3), (1, 3), (2, 38), (4, 3), (5, 39)], false⟩) (by kernel_rfl) rfl rfl rfl rfl (.inr fun e => by rw [e] at hv; cases hv) rfl rfl (fun e => by
        have := congrArg List.length e
        simp only [List.length_map, List.length_nil] at this
        omega)) ?_
      repeat' (first | (with_reducible first | refine SeqQ_normal _ _ ?_ | refine CondR_tt ?_ | refine CondR_ff ?_) | rw [awp_seq] | simp only [pkS, TyB, hz, hb1, hb2, hw1, hw2, hw3, hm1, hm2, ← hA, ← hB, htB, htB2, hBl, hl1, hl2, e1, e2, hd, hv, ht, htv, hcon, Bool.not_false, pkY, Int.reduceEq, bne_self_eq_false, Int.reduceBEq, Int.reduceBNe, implies_true, forall_const, Nat.reduceSub, Nat.reduceEqDiff, Nat.reduceAdd, Nat.reduceMul, Nat.reduceLeDiff, Nat.reduceLT, Nat.reduceBEq, reduceCtorEq] | refine CallRG_no ?_ | refine CondR_of (fun hb => ?_) (fun hb => ?_) | (refine And.intro ?_ ?_; focus ((try with_reducible refine GIm_of ?_); first | (with_reducible rfl) | ((with_reducible first | refine rng_of ?_ | refine ordOK_of ?_ | refine chk_of ?_); kernel_rfl) | (intros; omega) | (intro q p; rw [q, p]; rfl) | (intro q; rw [q]; rfl) | (intro q; simp only [Bool.and_eq_true, decide_eq_true_eq, beq_iff_eq] at q; omega) | (intros; simp_all; done) | (intros; simp [List.range, List.range.loop]; done) | (intros; simp_all [List.range, List.range.loop]; done))) | refine And.intro (fun hg => ?_) (fun hg => ?_) | (with_reducible refine chk_of ?_; kernel_rfl) | fail)
      exact ⟨[], _, by rw [List.append_nil], .inl trivial⟩
    · have hb2 : decide (((n + 1 : Nat) : Int) > (k : Int)) = true := by simp; omega
      have hm1 : min 1 (n + 1 - i) = 1 := by omega
      have hm2 : min (n - i) (n + 1 - (i + 1)) = n - i := by omega
      have hn1 : i + (n + 1 - i) = n + 1 := by omega
      obtain ⟨Z, hZ⟩ : ∃ Z, Z = zeroD [.int .i64 0, .int .i64 0, .int .i64 0, .int .i64 0, .int .i64 0, .slice none 0 0] (n + 1 - i) := ⟨_, rfl⟩
      have hZl : Z.length = (n + 1 - i) * 6 := by rw [hZ, zeroD_len]; rfl
      have e1 : List.take (i * 6) (List.map C.d (A ++ Z)) ++ List.map C.d vs ++ List.drop (i * 6 + 6) (List.map C.d (A ++ Z)) = List.map C.d (A ++ vs ++ Z.drop 6) := by
        rw [← List.map_take, ← List.map_drop, take_app hAl, drop_app2 (by omega), hAl, Nat.add_sub_cancel_left]; simp
      have e2 : List.take ((i + 1) * 6) (List.map C.d (A ++ vs ++ Z.drop 6)) ++ List.map C.d Bq ++ List.drop ((i + 1) * 6 + (n - i) * 6) (List.map C.d (A ++ vs ++ Z.drop 6)) = List.map C.d (A ++ (vs ++ Bq)) := by
        rw [← List.map_take, ← List.map_drop, take_app (by rw [List.length_append]; omega), List.drop_of_length_le (by simp only [List.length_append, List.length_drop]; omega)]; simp
      have hl1 : (A ++ vs ++ Z.drop 6).length = (n + 1) * 6 := by simp only [List.length_append, List.length_drop]; omega
      have hl2 : (A ++ Z).length = (n + 1) * 6 := by simp only [List.length_append]; omega
      repeat' (first | (with_reducible first | refine SeqQ_normal _ _ ?_ | refine CondR_tt ?_ | refine CondR_ff ?_) | rw [awp_seq] | simp only [pkS, TyB, hz, hb1, hb2, hw1, hw2, hw3, hm1, hm2, hn1, ← hA, ← hB, ← hZ, hd, hv, ht, htv, htB, hBl, hl1, hl2, e1, e2, hcon, pkY, Int.reduceEq, bne_self_eq_false, Int.reduceBEq, Int.reduceBNe, implies_true, forall_const, Nat.reduceSub, Nat.reduceEqDiff, Nat.reduceAdd, Nat.reduceMul, Nat.reduceLeDiff, Nat.reduceLT, Nat.reduceBEq, reduceCtorEq] | refine CallRG_no ?_ | refine CondR_of (fun hb => ?_) (fun hb => ?_) | (refine And.intro ?_ ?_; focus ((try with_reducible refine GIm_of ?_); first | (with_reducible rfl) | ((with_reducible first | refine rng_of ?_ | refine ordOK_of ?_ | refine chk_of ?_); kernel_rfl) | (intros; omega) | (intro q p; rw [q, p]; rfl) | (intro q; rw [q]; rfl) | (intro q; simp only [Bool.and_eq_true, decide_eq_true_eq, beq_iff_eq] at q; omega) | (intros; simp_all; done) | (intros; simp [List.range, List.range.loop]; done) | (intros; simp_all [List.range, List.range.loop]; done))) | refine And.intro (fun hg => ?_) (fun hg => ?_) | (with_reducible refine chk_of ?_; kernel_rfl) | fail)
      exact ⟨rfl, [], _, by rw [List.append_nil], .inr ⟨_, rfl⟩⟩
end Go.Proofs.YtgiempmfpmlgnaaGreat

