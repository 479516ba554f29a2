/- Contracts: searches. -/
import Derived.Test.YtgiempmfpmlgnaaA
namespace Go.Proofs.Ytgiempmfpmlgnaa
open Go.Pk
set_option maxRecDepth 100000
set_option linter.unusedSimpArgs false
set_option linter.unusedVariables false
abbrev intsE (l : List Int) : List D := l.flatMap fun n => [iD n]
theorem ints_at {l : List Int} {i : Nat} (hi : i < l.length) : (intsE l).drop (i * 1) = [iD l[i]] ++ (intsE (l.drop (i + 1))) := drop_enc _ 1 l i hi fun _ => rfl
theorem ints_len {l : List Int} : (intsE l).length = l.length * 1 := len_enc _ 1 (fun _ => rfl) l
/-- The place of the first, or -1. -/
def idxF {α : Type} (p : α → Bool) : List α → Int → Int
  | [], _ => -1
  | x :: l, i => if p x = true then i else idxF p l (i + 1)
theorem idxF_any {α : Type} (p : α → Bool) (l : List α) : decide (idxF p l 0 ≥ 0) = l.any p := by
  have h : ∀ (l : List α) (i : Int), 0 ≤ i → (0 ≤ idxF p l i ↔ l.any p = true) := by
    intro l
    induction l with
    | nil => intro i _; simp [idxF]
    | cons x l ih =>
      intro i hi
      simp only [idxF]
      by_cases hx : p x = true
      · simp [hx, hi]
      · rw [if_neg hx, ih (i + 1) (by omega)]; simp [hx]
  rw [Bool.eq_iff_iff]
  simpa using h l 0 (Int.le_refl _)
abbrev intAV : Int → AV := fun x => .one (di x)
theorem index_int (l : List Int) (hl : l.length < 2 ^ 62) (p : Int → Bool) (f : Nat) (caps : List C) (hc : lendAs [] (caps.map AV.one) = some (caps.map fun c => .f (.one c)))
    (hp : ∀ x ∈ l, CallOK Try.prog f (.f (intAV x) :: caps.map fun c => .f (.one c)) (fun r o => r = [rb (p x)] ∧ o = [])) :
    CallOK Try.prog 70 [.f (al l.length (intsE l)), .f (.one (.clos f caps))] (fun r o => r = [ri (idxF p l 0)] ∧ o = []) := by
  refine callOK_of TOKTy mixed (T := Ty) (n := 19) Try.func70 (c := Try.f70.body.getD .skip) rfl Try.results70 Try.ntmps70 Try.call70 ?_
  simp only [Try.f70, Option.getD]
  repeat (first | with_reducible refine SeqQ_normal _ _ ?_ | with_reducible refine And.imp_right (SeqQ_normal _ _) ?_ | with_reducible refine And.imp_right (And.imp_right (SeqQ_normal _ _)) ?_ | with_reducible refine And.imp_right (And.imp_right (And.imp_right (SeqQ_normal _ _))) ?_ | rw [awp_seq] | simp only [pkS, TyB, Nat.reduceSub,  if_true, if_false, implies_true, Nat.reduceEqDiff, Nat.reduceAdd, Nat.reduceMul, Nat.reduceLeDiff, Nat.reduceLT, Nat.reduceBEq, beq_self_eq_true, reduceCtorEq, imp_self, ne_eq, not_false_eq_true, beq_iff_eq, forall_const, true_implies])
  refine LoopR_fn (τ := Nat) (fun i => ⟨[al l.length (intsE l), .one (.clos f caps), dd, dd, ai 0, dd, al l.length (intsE l), ai l.length, ai i, dd, dd, dd, dd, dd, dd, dd, dd, dd, dd], []⟩) (fun i => i ≤ l.length) (fun i => idxF p (l.drop i) i) (fun i => l.length - i) 0 (Gh.fgt ?_) (Nat.zero_le _) ?_
  · simp only [fgt_dead, fgt_same, fgt_nil, Int.natCast_zero]
  intro i hi0 hF K hK
  repeat (first | with_reducible refine SeqQ_normal _ _ ?_ | with_reducible refine And.imp_right (SeqQ_normal _ _) ?_ | with_reducible refine And.imp_right (And.imp_right (SeqQ_normal _ _)) ?_ | with_reducible refine And.imp_right (And.imp_right (And.imp_right (SeqQ_normal _ _))) ?_ | rw [awp_seq] | simp only [pkS, TyB, Nat.reduceSub,  if_true, if_false, implies_true, Nat.reduceEqDiff, Nat.reduceAdd, Nat.reduceMul, Nat.reduceLeDiff, Nat.reduceLT, Nat.reduceBEq, beq_self_eq_true, reduceCtorEq, imp_self, ne_eq, not_false_eq_true, beq_iff_eq, forall_const, true_implies])
  rw [CondR_bool]
  refine ⟨trivial, fun hlt => ?_, fun hge => ?_⟩
  · have hi : i < l.length := by simpa using hlt
    rw [List.drop_eq_getElem_cons hi, idxF] at hF
    have hat := ints_at hi
    simp only [List.cons_append, List.nil_append] at hat
    repeat (first | with_reducible refine SeqQ_normal _ _ ?_ | with_reducible refine And.imp_right (SeqQ_normal _ _) ?_ | with_reducible refine And.imp_right (And.imp_right (SeqQ_normal _ _)) ?_ | with_reducible refine And.imp_right (And.imp_right (And.imp_right (SeqQ_normal _ _))) ?_ | rw [awp_seq] | simp only [pkS, TyB, Nat.reduceSub, ints_len, hat, hc, if_true, if_false, implies_true, Nat.reduceEqDiff, Nat.reduceAdd, Nat.reduceMul, Nat.reduceLeDiff, Nat.reduceLT, Nat.reduceBEq, beq_self_eq_true, reduceCtorEq, imp_self, ne_eq, not_false_eq_true, beq_iff_eq, forall_const, true_implies])
    refine ⟨⟨Int.natCast_nonneg i, by omega⟩, ?_⟩
    refine CallR_of (hp _ (List.getElem_mem hi)) ?_
    repeat (first | with_reducible refine SeqQ_normal _ _ ?_ | with_reducible refine And.imp_right (SeqQ_normal _ _) ?_ | with_reducible refine And.imp_right (And.imp_right (SeqQ_normal _ _)) ?_ | with_reducible refine And.imp_right (And.imp_right (And.imp_right (SeqQ_normal _ _))) ?_ | rw [awp_seq] | simp only [pkS, TyB, Nat.reduceSub,  if_true, if_false, implies_true, Nat.reduceEqDiff, Nat.reduceAdd, Nat.reduceMul, Nat.reduceLeDiff, Nat.reduceLT, Nat.reduceBEq, beq_self_eq_true, reduceCtorEq, imp_self, ne_eq, not_false_eq_true, beq_iff_eq, forall_const, true_implies])
    refine CondR_of (fun hb => ?_) (fun hb => ?_)
    · rw [if_pos hb] at hF
      repeat (first | with_reducible refine SeqQ_normal _ _ ?_ | with_reducible refine And.imp_right (SeqQ_normal _ _) ?_ | with_reducible refine And.imp_right (And.imp_right (SeqQ_normal _ _)) ?_ | with_reducible refine And.imp_right (And.imp_right (And.imp_right (SeqQ_normal _ _))) ?_ | rw [awp_seq] | simp only [pkS, TyB, Nat.reduceSub,  if_true, if_false, implies_true, Nat.reduceEqDiff, Nat.reduceAdd, Nat.reduceMul, Nat.reduceLeDiff, Nat.reduceLT, Nat.reduceBEq, beq_self_eq_true, reduceCtorEq, imp_self, ne_eq, not_false_eq_true, beq_iff_eq, forall_const, true_implies])
      rw [hF]; rfl
    · rw [if_neg (by simp [hb])] at hF
      repeat (first | with_reducible refine SeqQ_normal _ _ ?_ | with_reducible refine And.imp_right (SeqQ_normal _ _) ?_ | with_reducible refine And.imp_right (And.imp_right (SeqQ_normal _ _)) ?_ | with_reducible refine And.imp_right (And.imp_right (And.imp_right (SeqQ_normal _ _))) ?_ | rw [awp_seq] | simp only [pkS, TyB, Nat.reduceSub,  if_true, if_false, implies_true, Nat.reduceEqDiff, Nat.reduceAdd, Nat.reduceMul, Nat.reduceLeDiff, Nat.reduceLT, Nat.reduceBEq, beq_self_eq_true, reduceCtorEq, imp_self, ne_eq, not_false_eq_true, beq_iff_eq, forall_const, true_implies])
      refine hK _ (i + 1) (Gh.fgt ?_) hi (by simp only [List.drop_eq_getElem_cons hi, idxF]; rw [if_neg (by simp [hb])]; rfl) (by omega)
      have hw : IntKind.i64.wrap ((i : Int) + 1) = ((i + 1 : Nat) : Int) := by rw [wrap64 (by omega) (by omega)]; rfl
      simp only [hw, fgt_dead, fgt_same, fgt_nil]
  · have hi : i = l.length := by
      have : ¬ (i : Int) < l.length := by simpa using hge
      omega
    rw [hi, List.drop_length, idxF] at hF
    repeat (first | with_reducible refine SeqQ_normal _ _ ?_ | with_reducible refine And.imp_right (SeqQ_normal _ _) ?_ | with_reducible refine And.imp_right (And.imp_right (SeqQ_normal _ _)) ?_ | with_reducible refine And.imp_right (And.imp_right (And.imp_right (SeqQ_normal _ _))) ?_ | rw [awp_seq] | simp only [pkS, TyB, Nat.reduceSub,  if_true, if_false, implies_true, Nat.reduceEqDiff, Nat.reduceAdd, Nat.reduceMul, Nat.reduceLeDiff, Nat.reduceLT, Nat.reduceBEq, beq_self_eq_true, reduceCtorEq, imp_self, ne_eq, not_false_eq_true, beq_iff_eq, forall_const, true_implies])
    rw [hF]; rfl
theorem contains_int (l : List Int) (hl : l.length < 2 ^ 62) (p : Int → Bool) (f : Nat) (caps : List C) (hc : lendAs [] (caps.map AV.one) = some (caps.map fun c => .f (.one c))) (hc2 : lendC.lendCs [] caps = some caps)
    (hp : ∀ x ∈ l, CallOK Try.prog f (.f (intAV x) :: caps.map fun c => .f (.one c)) (fun r o => r = [rb (p x)] ∧ o = [])) :
    CallOK Try.prog 50 [.f (al l.length (intsE l)), .f (.one (.clos f caps))] (fun r o => r = [rb (l.any p)] ∧ o = []) := by
  refine callOK_of TOKTy mixed (T := Ty) (n := 9) Try.func50 (c := Try.f50.body.getD .skip) rfl Try.results50 Try.ntmps50 Try.call50 ?_
  simp only [Try.f50, Option.getD]
  repeat (first | with_reducible refine SeqQ_normal _ _ ?_ | with_reducible refine And.imp_right (SeqQ_normal _ _) ?_ | with_reducible refine And.imp_right (And.imp_right (SeqQ_normal _ _)) ?_ | with_reducible refine And.imp_right (And.imp_right (And.imp_right (SeqQ_normal _ _))) ?_ | rw [awp_seq] | simp only [pkS, TyB, Nat.reduceSub, hc2, if_true, if_false, implies_true, Nat.reduceEqDiff, Nat.reduceAdd, Nat.reduceMul, Nat.reduceLeDiff, Nat.reduceLT, Nat.reduceBEq, beq_self_eq_true, reduceCtorEq, imp_self, ne_eq, not_false_eq_true, beq_iff_eq, forall_const, true_implies])
  refine CallR_of (index_int l hl p f caps hc hp) ?_
  repeat (first | with_reducible refine SeqQ_normal _ _ ?_ | with_reducible refine And.imp_right (SeqQ_normal _ _) ?_ | with_reducible refine And.imp_right (And.imp_right (SeqQ_normal _ _)) ?_ | with_reducible refine And.imp_right (And.imp_right (And.imp_right (SeqQ_normal _ _))) ?_ | rw [awp_seq] | simp only [pkS, TyB, Nat.reduceSub,  if_true, if_false, implies_true, Nat.reduceEqDiff, Nat.reduceAdd, Nat.reduceMul, Nat.reduceLeDiff, Nat.reduceLT, Nat.reduceBEq, beq_self_eq_true, reduceCtorEq, imp_self, ne_eq, not_false_eq_true, beq_iff_eq, forall_const, true_implies])
  rw [idxF_any]
abbrev reqAV : Req → AV := fun x => .agg (x.enc.map C.d)
theorem index_req (l : List Req) (hl : l.length < 2 ^ 62) (p : Req → Bool) (f : Nat) (caps : List C) (hc : lendAs [] (caps.map AV.one) = some (caps.map fun c => .f (.one c)))
    (hp : ∀ x ∈ l, CallOK Try.prog f (.f (reqAV x) :: caps.map fun c => .f (.one c)) (fun r o => r = [rb (p x)] ∧ o = [])) :
    CallOK Try.prog 53 [.f (al l.length (reqsE l)), .f (.one (.clos f caps))] (fun r o => r = [ri (idxF p l 0)] ∧ o = []) := by
  refine callOK_of TOKTy mixed (T := Ty) (n := 19) Try.func53 (c := Try.f53.body.getD .skip) rfl Try.results53 Try.ntmps53 Try.call53 ?_
  simp only [Try.f53, Option.getD]
  repeat (first | with_reducible refine SeqQ_normal _ _ ?_ | with_reducible refine And.imp_right (SeqQ_normal _ _) ?_ | with_reducible refine And.imp_right (And.imp_right (SeqQ_normal _ _)) ?_ | with_reducible refine And.imp_right (And.imp_right (And.imp_right (SeqQ_normal _ _))) ?_ | rw [awp_seq] | simp only [pkS, TyB, Nat.reduceSub,  if_true, if_false, implies_true, Nat.reduceEqDiff, Nat.reduceAdd, Nat.reduceMul, Nat.reduceLeDiff, Nat.reduceLT, Nat.reduceBEq, beq_self_eq_true, reduceCtorEq, imp_self, ne_eq, not_false_eq_true, beq_iff_eq, forall_const, true_implies])
  refine LoopR_fn (τ := Nat) (fun i => ⟨[al l.length (reqsE l), .one (.clos f caps), dd, dd, ai 0, dd, al l.length (reqsE l), ai l.length, ai i, dd, dd, dd, dd, dd, dd, dd, dd, dd, dd], []⟩) (fun i => i ≤ l.length) (fun i => idxF p (l.drop i) i) (fun i => l.length - i) 0 (Gh.fgt ?_) (Nat.zero_le _) ?_
  · simp only [fgt_dead, fgt_same, fgt_nil, Int.natCast_zero]
  intro i hi0 hF K hK
  repeat (first | with_reducible refine SeqQ_normal _ _ ?_ | with_reducible refine And.imp_right (SeqQ_normal _ _) ?_ | with_reducible refine And.imp_right (And.imp_right (SeqQ_normal _ _)) ?_ | with_reducible refine And.imp_right (And.imp_right (And.imp_right (SeqQ_normal _ _))) ?_ | rw [awp_seq] | simp only [pkS, TyB, Nat.reduceSub,  if_true, if_false, implies_true, Nat.reduceEqDiff, Nat.reduceAdd, Nat.reduceMul, Nat.reduceLeDiff, Nat.reduceLT, Nat.reduceBEq, beq_self_eq_true, reduceCtorEq, imp_self, ne_eq, not_false_eq_true, beq_iff_eq, forall_const, true_implies])
  rw [CondR_bool]
  refine ⟨trivial, fun hlt => ?_, fun hge => ?_⟩
  · have hi : i < l.length := by simpa using hlt
    rw [List.drop_eq_getElem_cons hi, idxF] at hF
    have hat := reqs_at hi
    simp only [List.cons_append, List.nil_append] at hat
    repeat (first | with_reducible refine SeqQ_normal _ _ ?_ | with_reducible refine And.imp_right (SeqQ_normal _ _) ?_ | with_reducible refine And.imp_right (And.imp_right (SeqQ_normal _ _)) ?_ | with_reducible refine And.imp_right (And.imp_right (And.imp_right (SeqQ_normal _ _))) ?_ | rw [awp_seq] | simp only [pkS, TyB, Nat.reduceSub, reqs_len, hat, hc, if_true, if_false, implies_true, Nat.reduceEqDiff, Nat.reduceAdd, Nat.reduceMul, Nat.reduceLeDiff, Nat.reduceLT, Nat.reduceBEq, beq_self_eq_true, reduceCtorEq, imp_self, ne_eq, not_false_eq_true, beq_iff_eq, forall_const, true_implies])
    refine ⟨⟨Int.natCast_nonneg i, by omega⟩, ?_⟩
    refine CallR_of (hp _ (List.getElem_mem hi)) ?_
    repeat (first | with_reducible refine SeqQ_normal _ _ ?_ | with_reducible refine And.imp_right (SeqQ_normal _ _) ?_ | with_reducible refine And.imp_right (And.imp_right (SeqQ_normal _ _)) ?_ | with_reducible refine And.imp_right (And.imp_right (And.imp_right (SeqQ_normal _ _))) ?_ | rw [awp_seq] | simp only [pkS, TyB, Nat.reduceSub,  if_true, if_false, implies_true, Nat.reduceEqDiff, Nat.reduceAdd, Nat.reduceMul, Nat.reduceLeDiff, Nat.reduceLT, Nat.reduceBEq, beq_self_eq_true, reduceCtorEq, imp_self, ne_eq, not_false_eq_true, beq_iff_eq, forall_const, true_implies])
    refine CondR_of (fun hb => ?_) (fun hb => ?_)
    · rw [if_pos hb] at hF
      repeat (first | with_reducible refine SeqQ_normal _ _ ?_ | with_reducible refine And.imp_right (SeqQ_normal _ _) ?_ | with_reducible refine And.imp_right (And.imp_right (SeqQ_normal _ _)) ?_ | with_reducible refine And.imp_right (And.imp_right (And.imp_right (SeqQ_normal _ _))) ?_ | rw [awp_seq] | simp only [pkS, TyB, Nat.reduceSub,  if_true, if_false, implies_true, Nat.reduceEqDiff, Nat.reduceAdd, Nat.reduceMul, Nat.reduceLeDiff, Nat.reduceLT, Nat.reduceBEq, beq_self_eq_true, reduceCtorEq, imp_self, ne_eq, not_false_eq_true, beq_iff_eq, forall_const, true_implies])
      rw [hF]; rfl
    · rw [if_neg (by simp [hb])] at hF
      repeat (first | with_reducible refine SeqQ_normal _ _ ?_ | with_reducible refine And.imp_right (SeqQ_normal _ _) ?_ | with_reducible refine And.imp_right (And.imp_right (SeqQ_normal _ _)) ?_ | with_reducible refine And.imp_right (And.imp_right (And.imp_right (SeqQ_normal _ _))) ?_ | rw [awp_seq] | simp only [pkS, TyB, Nat.reduceSub,  if_true, if_false, implies_true, Nat.reduceEqDiff, Nat.reduceAdd, Nat.reduceMul, Nat.reduceLeDiff, Nat.reduceLT, Nat.reduceBEq, beq_self_eq_true, reduceCtorEq, imp_self, ne_eq, not_false_eq_true, beq_iff_eq, forall_const, true_implies])
      refine hK _ (i + 1) (Gh.fgt ?_) hi (by simp only [List.drop_eq_getElem_cons hi, idxF]; rw [if_neg (by simp [hb])]; rfl) (by omega)
      have hw : IntKind.i64.wrap ((i : Int) + 1) = ((i + 1 : Nat) : Int) := by rw [wrap64 (by omega) (by omega)]; rfl
      simp only [hw, fgt_dead, fgt_same, fgt_nil]
  · have hi : i = l.length := by
      have : ¬ (i : Int) < l.length := by simpa using hge
      omega
    rw [hi, List.drop_length, idxF] at hF
    repeat (first | with_reducible refine SeqQ_normal _ _ ?_ | with_reducible refine And.imp_right (SeqQ_normal _ _) ?_ | with_reducible refine And.imp_right (And.imp_right (SeqQ_normal _ _)) ?_ | with_reducible refine And.imp_right (And.imp_right (And.imp_right (SeqQ_normal _ _))) ?_ | rw [awp_seq] | simp only [pkS, TyB, Nat.reduceSub,  if_true, if_false, implies_true, Nat.reduceEqDiff, Nat.reduceAdd, Nat.reduceMul, Nat.reduceLeDiff, Nat.reduceLT, Nat.reduceBEq, beq_self_eq_true, reduceCtorEq, imp_self, ne_eq, not_false_eq_true, beq_iff_eq, forall_const, true_implies])
    rw [hF]; rfl
theorem contains_req (l : List Req) (hl : l.length < 2 ^ 62) (p : Req → Bool) (f : Nat) (caps : List C) (hc : lendAs [] (caps.map AV.one) = some (caps.map fun c => .f (.one c))) (hc2 : lendC.lendCs [] caps = some caps)
    (hp : ∀ x ∈ l, CallOK Try.prog f (.f (reqAV x) :: caps.map fun c => .f (.one c)) (fun r o => r = [rb (p x)] ∧ o = [])) :
    CallOK Try.prog 33 [.f (al l.length (reqsE l)), .f (.one (.clos f caps))] (fun r o => r = [rb (l.any p)] ∧ o = []) := by
  refine callOK_of TOKTy mixed (T := Ty) (n := 9) Try.func33 (c := Try.f33.body.getD .skip) rfl Try.results33 Try.ntmps33 Try.call33 ?_
  simp only [Try.f33, Option.getD]
  repeat (first | with_reducible refine SeqQ_normal _ _ ?_ | with_reducible refine And.imp_right (SeqQ_normal _ _) ?_ | with_reducible refine And.imp_right (And.imp_right (SeqQ_normal _ _)) ?_ | with_reducible refine And.imp_right (And.imp_right (And.imp_right (SeqQ_normal _ _))) ?_ | rw [awp_seq] | simp only [pkS, TyB, Nat.reduceSub, hc2, if_true, if_false, implies_true, Nat.reduceEqDiff, Nat.reduceAdd, Nat.reduceMul, Nat.reduceLeDiff, Nat.reduceLT, Nat.reduceBEq, beq_self_eq_true, reduceCtorEq, imp_self, ne_eq, not_false_eq_true, beq_iff_eq, forall_const, true_implies])
  refine CallR_of (index_req l hl p f caps hc hp) ?_
  repeat (first | with_reducible refine SeqQ_normal _ _ ?_ | with_reducible refine And.imp_right (SeqQ_normal _ _) ?_ | with_reducible refine And.imp_right (And.imp_right (SeqQ_normal _ _)) ?_ | with_reducible refine And.imp_right (And.imp_right (And.imp_right (SeqQ_normal _ _))) ?_ | rw [awp_seq] | simp only [pkS, TyB, Nat.reduceSub,  if_true, if_false, implies_true, Nat.reduceEqDiff, Nat.reduceAdd, Nat.reduceMul, Nat.reduceLeDiff, Nat.reduceLT, Nat.reduceBEq, beq_self_eq_true, reduceCtorEq, imp_self, ne_eq, not_false_eq_true, beq_iff_eq, forall_const, true_implies])
  rw [idxF_any]
abbrev promiseAV : Prom → AV := fun x => .agg (x.enc.map C.d)
theorem index_promise (l : List Prom) (hl : l.length < 2 ^ 62) (p : Prom → Bool) (f : Nat) (caps : List C) (hc : lendAs [] (caps.map AV.one) = some (caps.map fun c => .f (.one c)))
    (hp : ∀ x ∈ l, CallOK Try.prog f (.f (promiseAV x) :: caps.map fun c => .f (.one c)) (fun r o => r = [rb (p x)] ∧ o = [])) :
    CallOK Try.prog 81 [.f (al l.length (promisesE l)), .f (.one (.clos f caps))] (fun r o => r = [ri (idxF p l 0)] ∧ o = []) := by
  refine callOK_of TOKTy mixed (T := Ty) (n := 19) Try.func81 (c := Try.f81.body.getD .skip) rfl Try.results81 Try.ntmps81 Try.call81 ?_
  simp only [Try.f81, Option.getD]
  repeat (first | with_reducible refine SeqQ_normal _ _ ?_ | with_reducible refine And.imp_right (SeqQ_normal _ _) ?_ | with_reducible refine And.imp_right (And.imp_right (SeqQ_normal _ _)) ?_ | with_reducible refine And.imp_right (And.imp_right (And.imp_right (SeqQ_normal _ _))) ?_ | rw [awp_seq] | simp only [pkS, TyB, Nat.reduceSub,  if_true, if_false, implies_true, Nat.reduceEqDiff, Nat.reduceAdd, Nat.reduceMul, Nat.reduceLeDiff, Nat.reduceLT, Nat.reduceBEq, beq_self_eq_true, reduceCtorEq, imp_self, ne_eq, not_false_eq_true, beq_iff_eq, forall_const, true_implies])
  refine LoopR_fn (τ := Nat) (fun i => ⟨[al l.length (promisesE l), .one (.clos f caps), dd, dd, ai 0, dd, al l.length (promisesE l), ai l.length, ai i, dd, dd, dd, dd, dd, dd, dd, dd, dd, dd], []⟩) (fun i => i ≤ l.length) (fun i => idxF p (l.drop i) i) (fun i => l.length - i) 0 (Gh.fgt ?_) (Nat.zero_le _) ?_
  · simp only [fgt_dead, fgt_same, fgt_nil, Int.natCast_zero]
  intro i hi0 hF K hK
  repeat (first | with_reducible refine SeqQ_normal _ _ ?_ | with_reducible refine And.imp_right (SeqQ_normal _ _) ?_ | with_reducible refine And.imp_right (And.imp_right (SeqQ_normal _ _)) ?_ | with_reducible refine And.imp_right (And.imp_right (And.imp_right (SeqQ_normal _ _))) ?_ | rw [awp_seq] | simp only [pkS, TyB, Nat.reduceSub,  if_true, if_false, implies_true, Nat.reduceEqDiff, Nat.reduceAdd, Nat.reduceMul, Nat.reduceLeDiff, Nat.reduceLT, Nat.reduceBEq, beq_self_eq_true, reduceCtorEq, imp_self, ne_eq, not_false_eq_true, beq_iff_eq, forall_const, true_implies])
  rw [CondR_bool]
  refine ⟨trivial, fun hlt => ?_, fun hge => ?_⟩
  · have hi : i < l.length := by simpa using hlt
    rw [List.drop_eq_getElem_cons hi, idxF] at hF
    have hat := promises_at hi
    simp only [List.cons_append, List.nil_append] at hat
    repeat (first | with_reducible refine SeqQ_normal _ _ ?_ | with_reducible refine And.imp_right (SeqQ_normal _ _) ?_ | with_reducible refine And.imp_right (And.imp_right (SeqQ_normal _ _)) ?_ | with_reducible refine And.imp_right (And.imp_right (And.imp_right (SeqQ_normal _ _))) ?_ | rw [awp_seq] | simp only [pkS, TyB, Nat.reduceSub, promises_len, hat, hc, if_true, if_false, implies_true, Nat.reduceEqDiff, Nat.reduceAdd, Nat.reduceMul, Nat.reduceLeDiff, Nat.reduceLT, Nat.reduceBEq, beq_self_eq_true, reduceCtorEq, imp_self, ne_eq, not_false_eq_true, beq_iff_eq, forall_const, true_implies])
    refine ⟨⟨Int.natCast_nonneg i, by omega⟩, ?_⟩
    refine CallR_of (hp _ (List.getElem_mem hi)) ?_
    repeat (first | with_reducible refine SeqQ_normal _ _ ?_ | with_reducible refine And.imp_right (SeqQ_normal _ _) ?_ | with_reducible refine And.imp_right (And.imp_right (SeqQ_normal _ _)) ?_ | with_reducible refine And.imp_right (And.imp_right (And.imp_right (SeqQ_normal _ _))) ?_ | rw [awp_seq] | simp only [pkS, TyB, Nat.reduceSub,  if_true, if_false, implies_true, Nat.reduceEqDiff, Nat.reduceAdd, Nat.reduceMul, Nat.reduceLeDiff, Nat.reduceLT, Nat.reduceBEq, beq_self_eq_true, reduceCtorEq, imp_self, ne_eq, not_false_eq_true, beq_iff_eq, forall_const, true_implies])
    refine CondR_of (fun hb => ?_) (fun hb => ?_)
    · rw [if_pos hb] at hF
      repeat (first | with_reducible refine SeqQ_normal _ _ ?_ | with_reducible refine And.imp_right (SeqQ_normal _ _) ?_ | with_reducible refine And.imp_right (And.imp_right (SeqQ_normal _ _)) ?_ | with_reducible refine And.imp_right (And.imp_right (And.imp_right (SeqQ_normal _ _))) ?_ | rw [awp_seq] | simp only [pkS, TyB, Nat.reduceSub,  if_true, if_false, implies_true, Nat.reduceEqDiff, Nat.reduceAdd, Nat.reduceMul, Nat.reduceLeDiff, Nat.reduceLT, Nat.reduceBEq, beq_self_eq_true, reduceCtorEq, imp_self, ne_eq, not_false_eq_true, beq_iff_eq, forall_const, true_implies])
      rw [hF]; rfl
    · rw [if_neg (by simp [hb])] at hF
      repeat (first | with_reducible refine SeqQ_normal _ _ ?_ | with_reducible refine And.imp_right (SeqQ_normal _ _) ?_ | with_reducible refine And.imp_right (And.imp_right (SeqQ_normal _ _)) ?_ | with_reducible refine And.imp_right (And.imp_right (And.imp_right (SeqQ_normal _ _))) ?_ | rw [awp_seq] | simp only [pkS, TyB, Nat.reduceSub,  if_true, if_false, implies_true, Nat.reduceEqDiff, Nat.reduceAdd, Nat.reduceMul, Nat.reduceLeDiff, Nat.reduceLT, Nat.reduceBEq, beq_self_eq_true, reduceCtorEq, imp_self, ne_eq, not_false_eq_true, beq_iff_eq, forall_const, true_implies])
      refine hK _ (i + 1) (Gh.fgt ?_) hi (by simp only [List.drop_eq_getElem_cons hi, idxF]; rw [if_neg (by simp [hb])]; rfl) (by omega)
      have hw : IntKind.i64.wrap ((i : Int) + 1) = ((i + 1 : Nat) : Int) := by rw [wrap64 (by omega) (by omega)]; rfl
      simp only [hw, fgt_dead, fgt_same, fgt_nil]
  · have hi : i = l.length := by
      have : ¬ (i : Int) < l.length := by simpa using hge
      omega
    rw [hi, List.drop_length, idxF] at hF
    repeat (first | with_reducible refine SeqQ_normal _ _ ?_ | with_reducible refine And.imp_right (SeqQ_normal _ _) ?_ | with_reducible refine And.imp_right (And.imp_right (SeqQ_normal _ _)) ?_ | with_reducible refine And.imp_right (And.imp_right (And.imp_right (SeqQ_normal _ _))) ?_ | rw [awp_seq] | simp only [pkS, TyB, Nat.reduceSub,  if_true, if_false, implies_true, Nat.reduceEqDiff, Nat.reduceAdd, Nat.reduceMul, Nat.reduceLeDiff, Nat.reduceLT, Nat.reduceBEq, beq_self_eq_true, reduceCtorEq, imp_self, ne_eq, not_false_eq_true, beq_iff_eq, forall_const, true_implies])
    rw [hF]; rfl
theorem contains_promise (l : List Prom) (hl : l.length < 2 ^ 62) (p : Prom → Bool) (f : Nat) (caps : List C) (hc : lendAs [] (caps.map AV.one) = some (caps.map fun c => .f (.one c))) (hc2 : lendC.lendCs [] caps = some caps)
    (hp : ∀ x ∈ l, CallOK Try.prog f (.f (promiseAV x) :: caps.map fun c => .f (.one c)) (fun r o => r = [rb (p x)] ∧ o = [])) :
    CallOK Try.prog 75 [.f (al l.length (promisesE l)), .f (.one (.clos f caps))] (fun r o => r = [rb (l.any p)] ∧ o = []) := by
  refine callOK_of TOKTy mixed (T := Ty) (n := 9) Try.func75 (c := Try.f75.body.getD .skip) rfl Try.results75 Try.ntmps75 Try.call75 ?_
  simp only [Try.f75, Option.getD]
  repeat (first | with_reducible refine SeqQ_normal _ _ ?_ | with_reducible refine And.imp_right (SeqQ_normal _ _) ?_ | with_reducible refine And.imp_right (And.imp_right (SeqQ_normal _ _)) ?_ | with_reducible refine And.imp_right (And.imp_right (And.imp_right (SeqQ_normal _ _))) ?_ | rw [awp_seq] | simp only [pkS, TyB, Nat.reduceSub, hc2, if_true, if_false, implies_true, Nat.reduceEqDiff, Nat.reduceAdd, Nat.reduceMul, Nat.reduceLeDiff, Nat.reduceLT, Nat.reduceBEq, beq_self_eq_true, reduceCtorEq, imp_self, ne_eq, not_false_eq_true, beq_iff_eq, forall_const, true_implies])
  refine CallR_of (index_promise l hl p f caps hc hp) ?_
  repeat (first | with_reducible refine SeqQ_normal _ _ ?_ | with_reducible refine And.imp_right (SeqQ_normal _ _) ?_ | with_reducible refine And.imp_right (And.imp_right (SeqQ_normal _ _)) ?_ | with_reducible refine And.imp_right (And.imp_right (And.imp_right (SeqQ_normal _ _))) ?_ | rw [awp_seq] | simp only [pkS, TyB, Nat.reduceSub,  if_true, if_false, implies_true, Nat.reduceEqDiff, Nat.reduceAdd, Nat.reduceMul, Nat.reduceLeDiff, Nat.reduceLT, Nat.reduceBEq, beq_self_eq_true, reduceCtorEq, imp_self, ne_eq, not_false_eq_true, beq_iff_eq, forall_const, true_implies])
  rw [idxF_any]
end Go.Proofs.Ytgiempmfpmlgnaa

