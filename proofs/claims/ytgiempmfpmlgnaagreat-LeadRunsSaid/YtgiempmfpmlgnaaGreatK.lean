/- Contracts: a plan of promises. -/
import Derived.Test.YtgiempmfpmlgnaaGreatJ
namespace Go.Proofs.YtgiempmfpmlgnaaGreat
open Go.Pk
set_option maxRecDepth 100000
set_option linter.unusedSimpArgs false
set_option linter.unusedVariables false
structure Plan where
  done : Int
  tip : Tip
  time : Int
  batches : List Batch
  after : Tip
  later : Int
def Plan.rf (p : Plan) : RF := .agg [.d (iD p.done), .d (iD p.tip.view), .d (iD p.tip.slot), .d (iD p.time), .own 6 p.batches.length (batchesE p.batches) false, .d (iD p.after.view), .d (iD p.after.slot), .d (iD p.later)]
def noPlan : Plan := ⟨0, ⟨0, 0⟩, 0, [], ⟨0, 0⟩, 0⟩
/-- The base: of whom most is done. -/
def baseP : Int × Tip × Int → List Prom → Int × Tip × Int
  | b, [] => b
  | b, p :: l => baseP (if p.done > b.1 then (p.done, p.tip, p.time) else b) l
def sortedP (l : List Prom) : List Prom := outerP l 1 (l.length - 1)
def planP (s : List Prom) : Plan :=
  match s with
  | [] => noPlan
  | p :: l =>
    let b := baseP (p.done, p.tip, p.time) l
    let bs := (bestOf b.1 [] s).map Vote.batch
    let w := walkP (fixF (b.1 + 1)) 0 b.2.1 b.2.2 bs
    ⟨b.1, b.2.1, b.2.2, bs, w.1, w.2⟩
def makeP (l : List Prom) : Plan × Int :=
  if l.length = 0 then (noPlan, 6) else if toldMay l 0 l = true then (planP (sortedP l), 0) else (noPlan, 1)
theorem rfs2 {a b : List RO} {x y : RO} : rfsLe [.agg a, .one x] [.agg b, .one y] = (rosLe a b ∧ roLe x y ∧ True) := rfl
theorem rosLe_cons {a b : RO} {l m : List RO} : rosLe (a :: l) (b :: m) = (roLe a b ∧ rosLe l m) := rfl
theorem rosLe_nil : rosLe [] [] = True := rfl
theorem rfs_no {n : Int} : rfsLe [.agg [.d (iD 0), .d (iD 0), .d (iD 0), .d (iD 0), .d (.v (.slice none 0 0)), .d (iD 0), .d (iD 0), .d (iD 0)], .one (.d (iD n))] [noPlan.rf, .one (.d (iD n))] := by
  simp [noPlan, Plan.rf, rfs2, rosLe_cons, rosLe_nil, roLe]
/-! ### What is known of promises that may be -/
theorem bad_false {n : Int} (h : bad n = false) : 0 ≤ n ∧ n ≤ 2305843009213693952 := by
  simp [bad] at h
  omega
theorem batchMay_few {b : Batch} (h : Batch.may b = true) : b.reqs.length ≤ 3 := by
  unfold Batch.may at h
  split at h
  · simp only [Bool.and_eq_true, beq_iff_eq] at h
    omega
  · split at h
    · cases h
    · rename_i h2
      simp at h2
      omega
theorem votesMay_of {done : Int} : ∀ {last : Int} {l : List Vote}, done ≤ last → votesMay done last l = true → ∀ v ∈ l, done < v.slot ∧ v.slot ≤ done + 9 ∧ bad v.slot = false ∧ bad v.ballot = false ∧ Batch.may v.batch = true
  | last, [], _, _, v, hv => by cases hv
  | last, w :: l, hd, h, v, hv => by
    rw [votesMay] at h
    split at h
    · cases h
    · rename_i hc
      simp only [Bool.or_eq_true, Bool.not_eq_true', not_or, decide_eq_true_eq, Bool.not_eq_true, Bool.not_eq_false] at hc
      obtain ⟨⟨⟨h1, h2⟩, h3, h4⟩, h5⟩ := hc
      rcases List.mem_cons.1 hv with rfl | hv
      · exact ⟨by omega, by omega, h3, h4, h5⟩
      · exact votesMay_of (by omega) h v hv
structure MayP (p : Prom) : Prop where
  src : 0 ≤ p.src ∧ p.src < 7
  done : 0 ≤ p.done ∧ p.done ≤ 2305843009213693952
  view : 0 ≤ p.tip.view ∧ p.tip.view ≤ 2305843009213693952
  slot : 0 ≤ p.tip.slot ∧ p.tip.slot ≤ 2305843009213693952
  time : 0 ≤ p.time ∧ p.time ≤ 2305843009213693952
  len : p.votes.length ≤ 9
  may : votesMay p.done p.done p.votes = true
  votes : ∀ v ∈ p.votes, p.done < v.slot ∧ v.slot ≤ p.done + 9 ∧ bad v.slot = false ∧ bad v.ballot = false ∧ Batch.may v.batch = true
theorem may_of {p : Prom} (h : Prom.may p = true) : MayP p := by
  unfold Prom.may at h
  split at h
  · cases h
  · rename_i hc
    simp only [List.any_cons, List.any_nil, Bool.or_false, Bool.or_eq_true, not_or, decide_eq_true_eq, Bool.not_eq_true] at hc
    obtain ⟨⟨⟨h1, h2⟩, h3, h4, h5, h6⟩, h7⟩ := hc
    exact ⟨by omega, bad_false h3, bad_false h4, bad_false h5, bad_false h6, by omega, h, votesMay_of (Int.le_refl _) h⟩
theorem pigeon : ∀ (n : Nat) (l : List Int), (∀ x ∈ l, 0 ≤ x ∧ x < n) → l.Nodup → l.length ≤ n
  | 0, l, h, _ => by
    cases l with
    | nil => exact Nat.le_refl _
    | cons a l => have := h a (by simp); omega
  | n + 1, l, h, hn => by
    have h1 := pigeon n (l.filter (fun x => decide (x ≠ (n : Int)))) (fun x hx => by
      have := List.mem_filter.1 hx
      have h2 := h x this.1
      have h3 : x ≠ (n : Int) := by simpa using this.2
      omega) (hn.sublist List.filter_sublist)
    have h2 : ∀ (l : List Int), l.Nodup → l.length ≤ (l.filter (fun x => decide (x ≠ (n : Int)))).length + 1 := fun l => by
      induction l with
      | nil => intro _; simp
      | cons a l ih =>
        intro hd
        have hd' := List.nodup_cons.1 hd
        by_cases e : a = (n : Int)
        · have hfl : l.filter (fun x => decide (x ≠ (n : Int))) = l := List.filter_eq_self.2 fun x hx => by
            simp only [ne_eq, decide_not, Bool.not_eq_true', decide_eq_false_iff_not]
            intro e2
            exact hd'.1 (by rw [e, ← e2]; exact hx)
          rw [List.filter_cons_of_neg (by simp [e]), hfl]
          exact Nat.le_refl _
        · rw [List.filter_cons_of_pos (by simp [e]), List.length_cons, List.length_cons]
          have := ih hd'.2
          omega
    have := h2 l hn
    omega
theorem toldMay_of {l : List Prom} : ∀ {i : Nat} {rest : List Prom}, l = l.take i ++ rest → ((l.take i).map Prom.src).Nodup → toldMay l i rest = true → (∀ p ∈ rest, Prom.may p = true) ∧ (l.map Prom.src).Nodup
  | i, [], hl, hn, _ => ⟨fun p hp => (List.not_mem_nil hp).elim, by rw [List.append_nil] at hl; rw [hl]; exact hn⟩
  | i, p :: rest, hl, hn, h => by
    rw [toldMay] at h
    split at h
    · cases h
    · rename_i hc
      simp only [Bool.or_eq_true, Bool.not_eq_true', not_or, Bool.not_eq_true, Bool.not_eq_false] at hc
      have hi : i < l.length := by
        rcases Nat.lt_or_ge i l.length with h | h
        · exact h
        · rw [List.take_of_length_le h] at hl
          have := congrArg List.length hl
          simp at this
      have ht : l.take (i + 1) = l.take i ++ [p] := by
        have e : l.drop i = p :: rest := by
          have e2 : l.take i ++ l.drop i = l.take i ++ (p :: rest) := by rw [List.take_append_drop]; exact hl
          exact List.append_cancel_left e2
        have e3 := List.drop_eq_getElem_cons hi
        rw [e] at e3
        rw [List.take_succ_eq_append_getElem hi]
        injection e3 with e4 _
        rw [e4]
      obtain ⟨g1, g2⟩ := toldMay_of (l := l) (i := i + 1) (rest := rest) (by rw [ht, List.append_assoc]; exact hl) (by
        rw [ht, List.map_append]
        refine List.nodup_append.2 ⟨hn, by simp, fun a ha b hb => ?_⟩
        simp only [List.map_cons, List.map_nil, List.mem_singleton] at hb
        subst hb
        intro e
        subst e
        obtain ⟨q, hq, hqe⟩ := List.mem_map.1 ha
        have := List.any_eq_false.1 hc.2 q hq
        simp [hqe] at this) h
      exact ⟨fun q hq => by
        rcases List.mem_cons.1 hq with rfl | hq
        · exact hc.1
        · exact g1 q hq, g2⟩
theorem told_of {l : List Prom} (h : toldMay l 0 l = true) : (∀ p ∈ l, MayP p) ∧ (l.map Prom.src).Nodup ∧ l.length ≤ 7 := by
  obtain ⟨h1, h2⟩ := toldMay_of (l := l) (i := 0) (rest := l) (by simp) (by simp) h
  refine ⟨fun p hp => may_of (h1 p hp), h2, ?_⟩
  have := pigeon 7 (l.map Prom.src) (fun x hx => by
    obtain ⟨p, hp, rfl⟩ := List.mem_map.1 hx
    exact (may_of (h1 p hp)).src) h2
  simpa using this
theorem innerP_mem : ∀ {l : List Prom} {j : Nat} {p : Prom}, p ∈ innerP l j → p ∈ l
  | l, 0, p, h => h
  | l, j + 1, p, h => by
    rw [innerP] at h
    split at h
    · split at h
      · exact swapP_mem (innerP_mem h)
      · exact h
    · exact h
theorem outerP_mem : ∀ {k : Nat} {l : List Prom} {i : Nat} {p : Prom}, p ∈ outerP l i k → p ∈ l
  | 0, l, i, p, h => h
  | k + 1, l, i, p, h => innerP_mem (outerP_mem (k := k) h)
theorem sortedP_len {l : List Prom} : (sortedP l).length = l.length := outerP_len _ _ _
theorem baseP_max : ∀ {l : List Prom} {b : Int × Tip × Int}, b.1 ≤ (baseP b l).1 ∧ ∀ p ∈ l, p.done ≤ (baseP b l).1
  | [], b => ⟨Int.le_refl _, fun p hp => by cases hp⟩
  | q :: l, b => by
    rw [baseP]
    split
    · obtain ⟨h1, h2⟩ := baseP_max (l := l) (b := (q.done, q.tip, q.time))
      refine ⟨by simp only at h1; omega, fun p hp => ?_⟩
      rcases List.mem_cons.1 hp with rfl | hp
      · exact h1
      · exact h2 p hp
    · obtain ⟨h1, h2⟩ := baseP_max (l := l) (b := b)
      refine ⟨h1, fun p hp => ?_⟩
      rcases List.mem_cons.1 hp with rfl | hp
      · omega
      · exact h2 p hp
theorem baseP_of (P : Int × Tip × Int → Prop) : ∀ {l : List Prom} {b : Int × Tip × Int}, P b → (∀ p ∈ l, P (p.done, p.tip, p.time)) → P (baseP b l)
  | [], b, h, _ => h
  | q :: l, b, h, hl => by
    rw [baseP]
    split
    · exact baseP_of P (hl q (by simp)) fun p hp => hl p (by simp [hp])
    · exact baseP_of P h fun p hp => hl p (by simp [hp])
theorem stepV_len {done : Int} {b : List Vote} {v : Vote} (hb : b.length ≤ 9) (hv : v.slot ≤ done + 9) : (stepV done b v).length ≤ 9 := by
  unfold stepV
  split
  · exact hb
  · rw [layV_len, growV_len]
    omega
theorem bestOf_len {done : Int} : ∀ {l : List Prom} {best : List Vote}, best.length ≤ 9 → (∀ p ∈ l, ∀ v ∈ p.votes, v.slot ≤ done + 9) → (bestOf done best l).length ≤ 9
  | [], best, h, _ => h
  | p :: l, best, h, hv => by
    have h1 : ∀ (vs : List Vote) (b : List Vote), b.length ≤ 9 → (∀ v ∈ vs, v.slot ≤ done + 9) → (vs.foldl (stepV done) b).length ≤ 9 := fun vs => by
      induction vs with
      | nil => intro b hb _; exact hb
      | cons v vs ih => intro b hb hvs; exact ih _ (stepV_len hb (hvs v (by simp))) fun w hw => hvs w (by simp [hw])
    exact bestOf_len (l := l) (h1 p.votes best h (hv p (by simp))) fun q hq => hv q (by simp [hq])
set_option maxHeartbeats 2000000 in
theorem make_ok (l : List Prom) (hl : l.length < 2 ^ 42) (hok : ∀ p ∈ l, p.ok) : CallOK Tryz.prog 40 [.f (al l.length (promisesE l))] (fun r o => r = [(makeP l).1.rf, .one (.d (iD (makeP l).2))] ∧ o = []) := by
  refine CallOK.nil ?_
  refine callOK_of TOKTy mixed (T := Ty) (n := 76) Tryz.func40 (c := Tryz.f40.body.getD .skip) rfl Tryz.results40 Tryz.ntmps40 Tryz.call40 ?_
  simp only [Tryz.f40, Option.getD]
  repeat' (first | with_reducible refine SeqQ_normal _ _ ?_ | rw [awp_seq] | simp only [pkS, TyB,  implies_true, forall_const, Nat.reduceSub, Nat.reduceEqDiff, Nat.reduceAdd, Nat.reduceMul, Nat.reduceLeDiff, Nat.reduceLT, Nat.reduceBEq, reduceCtorEq] | ((try refine CallRG_tt ?_); apply CallR_of; (solve | exact (told_ok l (by omega) hok) | exact (cloneProm_ok l.length (promisesE l) promises_len (by have := (told_of (l := l) (by simpa using hb)).2.2; omega)) | (refine CallOK.le (told_ok l (by omega) hok) ?_; simp [argsLe, aLe, csLe, cLe]) | (refine CallOK.le (cloneProm_ok l.length (promisesE l) promises_len (by have := (told_of (l := l) (by simpa using hb)).2.2; omega)) ?_; simp [argsLe, aLe, csLe, cLe]))) | (apply CallRG_of; (focus (intro _; (solve | exact (told_ok l (by omega) hok) | exact (cloneProm_ok l.length (promisesE l) promises_len (by have := (told_of (l := l) (by simpa using hb)).2.2; omega)) | (refine CallOK.le (told_ok l (by omega) hok) ?_; simp [argsLe, aLe, csLe, cLe]) | (refine CallOK.le (cloneProm_ok l.length (promisesE l) promises_len (by have := (told_of (l := l) (by simpa using hb)).2.2; omega)) ?_; simp [argsLe, aLe, csLe, cLe])))); (focus rfl)) | refine CallRG_no ?_ | refine CondR_of (fun hb => ?_) (fun hb => ?_) | (refine And.intro ?_ ?_; focus ((try with_reducible refine GIm_of ?_); first | (with_reducible rfl) | ((with_reducible first | refine rng_of ?_ | refine ordOK_of ?_ | refine chk_of ?_); kernel_rfl) | (intros; omega) | (intro q p; rw [q, p]; rfl) | (intro q; rw [q]; rfl) | (intro q; simp only [Bool.and_eq_true, decide_eq_true_eq, beq_iff_eq] at q; omega) | (intros; simp_all; done) | (intros; simp [List.range, List.range.loop]; done) | (intros; simp_all [List.range, List.range.loop]; done))) | refine And.intro (fun hg => ?_) (fun hg => ?_) | (with_reducible refine chk_of ?_; kernel_rfl) | fail)
  · rw [makeP, if_pos (by simpa using hb)]
    exact rfs_no
  · rename_i h0
    rw [makeP, if_neg (by simpa using h0), if_neg (by simpa using hb)]
    exact rfs_no
  rename_i h0
  have ht : toldMay l 0 l = true := by simpa using hb
  have hm : makeP l = (planP (sortedP l), 0) := by rw [makeP, if_neg (by simpa using h0), if_pos ht]
  rw [hm]
  obtain ⟨hmay, hnd, h7⟩ := told_of ht
  have hp : 0 < l.length := by
    have : ¬ (l.length : Int) = 0 := by simpa using h0
    omega
  refine CallM_of (n := 57) (ars := [.row 6 l.length (promisesE l), .f (.one (.d (.v (.func (.func 58) #[] #[]))))]) (mv := .r ⟨4, 1, 0⟩ l.length) (lent := []) (rfs := []) (l' := [.own 6 l.length (promisesE (sortedP l)) true]) 0 ?_ (CallOK.le (sort_ok l hp h7 fun p hp => (hmay p hp).src) (by simp [argsLe, aLe, csLe, cLe])) ?_ ?_
  · simp only [pkS, TyB, toDs_map, implies_true, forall_const, Nat.reduceSub, Nat.reduceEqDiff, Nat.reduceAdd, Nat.reduceMul, Nat.reduceLeDiff, Nat.reduceLT, Nat.reduceBEq, reduceCtorEq]
  · simp only [pkS, TyB, scM, implies_true, forall_const, Nat.reduceSub, Nat.reduceEqDiff, Nat.reduceAdd, Nat.reduceMul, Nat.reduceLeDiff, Nat.reduceLT, Nat.reduceBEq, reduceCtorEq]
    exact ⟨rfl, hp, by rw [List.length_map, promises_len, promises_len, sortedP_len]⟩
  have hs1 : ∀ p ∈ sortedP l, MayP p ∧ p.ok := fun p hp => ⟨hmay p (outerP_mem hp), hok p (outerP_mem hp)⟩
  have hslen : (sortedP l).length = l.length := sortedP_len
  generalize sortedP l = s at hs1 hslen ⊢
  obtain ⟨p0, s, rfl⟩ : ∃ p0 s', s = p0 :: s' := by
    cases s with
    | nil => simp at hslen; omega
    | cons a b => exact ⟨a, b, rfl⟩
  repeat' (first | with_reducible refine SeqQ_normal _ _ ?_ | rw [awp_seq] | simp only [pkS, TyB, Int.toNat_zero, Int.toNat_one, Nat.zero_mul, List.drop_zero, implies_true, forall_const, Nat.reduceSub, Nat.reduceEqDiff, Nat.reduceAdd, Nat.reduceMul, Nat.reduceLeDiff, Nat.reduceLT, Nat.reduceBEq, reduceCtorEq] | refine CallRG_no ?_ | refine CondR_of (fun hb => ?_) (fun hb => ?_) | (refine And.intro ?_ ?_; focus ((try with_reducible refine GIm_of ?_); first | (with_reducible rfl) | ((with_reducible first | refine rng_of ?_ | refine ordOK_of ?_ | refine chk_of ?_); kernel_rfl) | (intros; omega) | (intro q p; rw [q, p]; rfl) | (intro q; rw [q]; rfl) | (intro q; simp only [Bool.and_eq_true, decide_eq_true_eq, beq_iff_eq] at q; omega) | (intros; simp_all; done) | (intros; simp [List.range, List.range.loop]; done) | (intros; simp_all [List.range, List.range.loop]; done))) | refine And.intro (fun hg => ?_) (fun hg => ?_) | (with_reducible refine chk_of ?_; kernel_rfl) | fail)
  obtain ⟨all, hall⟩ : ∃ all, all = p0 :: s := ⟨_, rfl⟩
  have hplan : planP (p0 :: s) = planP all := by rw [hall]
  have halen : all.length = l.length := by rw [hall]; exact hslen
  have hpl : planP all = let b := baseP (p0.done, p0.tip, p0.time) (all.drop 1); let bs := (bestOf b.1 [] all).map Vote.batch; let w := walkP (fixF (b.1 + 1)) 0 b.2.1 b.2.2 bs; ⟨b.1, b.2.1, b.2.2, bs, w.1, w.2⟩ := by rw [hall]; rfl
  rw [hplan, hpl]
  rw [← hall] at hs1
  refine LoopR_fn (τ := Nat × (Int × Tip × Int) × Nat × Nat) (fun t => ⟨[dd, dd, .one (.ptr ⟨2, 0, 0⟩ 0), ai 0, .one (.own ⟨4, 1, 0⟩ 0 l.length), .one (.ptr ⟨5, 0, 0⟩ 0), dd, dd, dd, dd, dd, dd, dd, dd, dd, dd, dd, dd, dd, dd, dd, dd, dd, dd, dd, dd, dd, dd, dd, dd, dd, dd, dd, dd, .one (.own ⟨4, 1, 0⟩ 1 (l.length - 1)), ai ((l.length - 1 : Nat) : Int), ai t.1, dd, dd, dd, dd, dd, dd, dd, dd, dd, dd, dd, dd, dd, dd, dd, dd, dd, dd, dd, dd, dd, dd, dd, dd, dd, dd, dd, dd, dd, dd, dd, dd, dd, dd, dd, dd, dd, dd, dd],
    [(2, { next := 1, l := [some { e := 0, var := true, fz := false, sz := 0, cells := [di 0, di 0, di 0, di 0, .d (.v (.slice none 0 0)), di 0, di 0, di 0] }, none, none, none, none, none, none, none, none] }), (17, ⟨1, []⟩),
     (4, { next := 1, l := [none, some { e := 0, var := false, fz := false, sz := 6, cells := (promisesE all).map C.d }] }),
     (5, { next := t.2.2.2, l := [some { e := 0, var := true, fz := false, sz := 0, cells := [di t.2.1.1, di t.2.1.2.1.view, di t.2.1.2.1.slot, di t.2.1.2.2, .d (.v (.slice none 0 0)), di 0, di 0, di 0] }, none, none, none, none, none, none, none, none] }), (7, ⟨t.2.2.1, []⟩)]⟩)
    (fun t => t.1 ≤ l.length - 1) (fun t => baseP t.2.1 (all.drop (1 + t.1))) (fun t => l.length - 1 - t.1) (0, (p0.done, p0.tip, p0.time), 0, 9) (Gh.keep [2, 4, 5] [7] ?_ (by rw [hall]; rfl)) (Nat.zero_le _) ?_
  · simp only [fgt_dead, fgt_same, fgt_nil, Int.natCast_zero]
  intro ⟨i, b, e7, n5⟩ hi0 hF K hK
  simp only at hi0 hF hK ⊢
  repeat (first | with_reducible refine SeqQ_normal _ _ ?_ | with_reducible refine And.imp_right (SeqQ_normal _ _) ?_ | with_reducible refine And.imp_right (And.imp_right (SeqQ_normal _ _)) ?_ | with_reducible refine And.imp_right (And.imp_right (And.imp_right (SeqQ_normal _ _))) ?_ | rw [awp_seq] | simp only [pkS, TyB,  implies_true, forall_const, Nat.reduceSub, Nat.reduceEqDiff, Nat.reduceAdd, Nat.reduceMul, Nat.reduceLeDiff, Nat.reduceLT, Nat.reduceBEq, reduceCtorEq])
  refine CondR_of (fun hlt => ?_) (fun hge => ?_)
  · have hi : i < l.length - 1 := by simpa using hlt
    have hia : 1 + i < all.length := by omega
    have hat := promC_at hia
    repeat' (first | with_reducible refine SeqQ_normal _ _ ?_ | rw [awp_seq] | simp only [pkS, TyB, promises_len, List.length_map, hat, implies_true, forall_const, Nat.reduceSub, Nat.reduceEqDiff, Nat.reduceAdd, Nat.reduceMul, Nat.reduceLeDiff, Nat.reduceLT, Nat.reduceBEq, reduceCtorEq] | refine CallRG_no ?_ | refine CondR_of (fun hb => ?_) (fun hb => ?_) | (refine And.intro ?_ ?_; focus ((try with_reducible refine GIm_of ?_); first | (with_reducible rfl) | ((with_reducible first | refine rng_of ?_ | refine ordOK_of ?_ | refine chk_of ?_); kernel_rfl) | (intros; omega) | (intro q p; rw [q, p]; rfl) | (intro q; rw [q]; rfl) | (intro q; simp only [Bool.and_eq_true, decide_eq_true_eq, beq_iff_eq] at q; omega) | (intros; simp_all; done) | (intros; simp [List.range, List.range.loop]; done) | (intros; simp_all [List.range, List.range.loop]; done))) | refine And.intro (fun hg => ?_) (fun hg => ?_) | (with_reducible refine chk_of ?_; kernel_rfl) | fail)
    · refine hK _ (i + 1, (all[1 + i].done, all[1 + i].tip, all[1 + i].time), _, _) (Gh.keep [2, 4, 5] [] ?_ rfl) hi ?_ (by simp only; omega)
      · simp only [i64_succ hi (by omega), fgt_dead, fgt_same, fgt_nil]
      · simp only [List.drop_eq_getElem_cons hia, baseP]
        rw [if_pos (by simpa using hb)]
        rfl
    · refine hK _ (i + 1, b, _, _) (Gh.keep [2, 4, 5] [] ?_ rfl) hi ?_ (by simp only; omega)
      · simp only [i64_succ hi (by omega), fgt_dead, fgt_same, fgt_nil]
      · simp only [List.drop_eq_getElem_cons hia, baseP]
        rw [if_neg (by simpa using hb)]
        rfl
  · have hi : i = l.length - 1 := by
      have : ¬ (i : Int) < ((l.length - 1 : Nat) : Int) := by simpa using hge
      omega
    rw [show all.drop (1 + i) = [] from List.drop_of_length_le (by omega), baseP] at hF
    rw [show 1 + 0 = 1 from rfl] at hF
    have hb0 : 0 ≤ b.1 ∧ b.1 ≤ 2305843009213693952 := by
      rw [hF]
      exact baseP_of (fun b => 0 ≤ b.1 ∧ b.1 ≤ 2305843009213693952) ((hs1 p0 (by rw [hall]; simp)).1.done) fun p hp => (hs1 p (List.mem_of_mem_drop hp)).1.done
    have hbm : ∀ p ∈ all, p.done ≤ b.1 := by
      have := baseP_max (l := all.drop 1) (b := (p0.done, p0.tip, p0.time))
      rw [← hF] at this
      intro p hp
      rw [hall] at hp
      rcases List.mem_cons.1 hp with rfl | hp
      · exact this.1
      · exact this.2 p (by rw [hall]; exact hp)
    rw [← hF]
    have hvs : ∀ p ∈ all, ∀ v ∈ p.votes, 0 ≤ v.slot ∧ v.slot ≤ b.1 + 9 ∧ v.batch.reqs.length ≤ 3 := fun p hp v hv => by
      have h1 := (hs1 p hp).1.votes v hv
      have h2 := hbm p hp
      have h3 := (hs1 p hp).1.done
      exact ⟨by omega, by omega, batchMay_few h1.2.2.2.2⟩
    have hbt := batches_ok all (by omega) (fun p hp => ⟨(hs1 p hp).2, (hs1 p hp).1.len⟩) b.1 hb0 hvs
    rw [halen] at hbt
    have hbl := bestOf_len (done := b.1) (best := []) (l := all) (by simp) fun p hp v hv => (hvs p hp v hv).2.1
    have hwk := walk_ok b.2.1 b.2.2 (b.1 + 1) ((bestOf b.1 [] all).map Vote.batch) (by rw [List.length_map]; exact hbl)
    rw [List.length_map] at hwk
    have hw : IntKind.i64.wrap (b.1 + 1) = b.1 + 1 := wrap64 (by omega) (by omega)
    have ht1 : (promisesE all).take (l.length * 6) = promisesE all := List.take_of_length_le (by rw [promises_len, halen]; omega)
    have ht2 : (batchesE ((bestOf b.1 [] all).map Vote.batch)).take ((bestOf b.1 [] all).length * 6) = batchesE ((bestOf b.1 [] all).map Vote.batch) := List.take_of_length_le (by rw [batches_len, List.length_map]; omega)
    clear hK
    repeat' (first | with_reducible refine SeqQ_normal _ _ ?_ | rw [awp_seq] | simp only [pkS, TyB, toDs_map, hw, sub_map, Nat.zero_mul, List.drop_zero, ht1, ht2, implies_true, forall_const, Nat.reduceSub, Nat.reduceEqDiff, Nat.reduceAdd, Nat.reduceMul, Nat.reduceLeDiff, Nat.reduceLT, Nat.reduceBEq, reduceCtorEq] | ((try refine CallRG_tt ?_); apply CallR_of; (solve | exact (hbt) | exact (hwk) | (refine CallOK.le (hbt) ?_; simp [argsLe, aLe, csLe, cLe]) | (refine CallOK.le (hwk) ?_; simp [argsLe, aLe, csLe, cLe]))) | (apply CallRG_of; (focus (intro _; (solve | exact (hbt) | exact (hwk) | (refine CallOK.le (hbt) ?_; simp [argsLe, aLe, csLe, cLe]) | (refine CallOK.le (hwk) ?_; simp [argsLe, aLe, csLe, cLe])))); (focus rfl)) | refine CallRG_no ?_ | refine CondR_of (fun hb => ?_) (fun hb => ?_) | (refine And.intro ?_ ?_; focus ((try with_reducible refine GIm_of ?_); first | (with_reducible rfl) | ((with_reducible first | refine rng_of ?_ | refine ordOK_of ?_ | refine chk_of ?_); kernel_rfl) | (intros; omega) | (intro q p; rw [q, p]; rfl) | (intro q; rw [q]; rfl) | (intro q; simp only [Bool.and_eq_true, decide_eq_true_eq, beq_iff_eq] at q; omega) | (intros; simp_all; done) | (intros; simp [List.range, List.range.loop]; done) | (intros; simp_all [List.range, List.range.loop]; done))) | refine And.intro (fun hg => ?_) (fun hg => ?_) | (with_reducible refine chk_of ?_; kernel_rfl) | fail)
    simp [rfs2, rosLe_cons, rosLe_nil, roLe, Plan.rf]
end Go.Proofs.YtgiempmfpmlgnaaGreat

