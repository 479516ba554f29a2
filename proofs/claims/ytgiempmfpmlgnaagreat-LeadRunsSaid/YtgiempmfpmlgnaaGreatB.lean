/- Contracts: searches. -/
import Derived.Test.YtgiempmfpmlgnaaGreatA
namespace Go.Proofs.YtgiempmfpmlgnaaGreat
open Go.Pk
set_option maxRecDepth 100000
set_option linter.unusedSimpArgs false
set_option linter.unusedVariables false
abbrev intsE (l : List Int) : List D := l.flatMap fun n => [iD n]
theorem ints_at {l : List Int} {i : Nat} (hi : i < l.length) : (intsE l).drop (i * 1) = [iD l[i]] ++ (intsE (l.drop (i + 1))) := drop_enc _ 1 l i hi fun _ => rfl
theorem ints_len {l : List Int} : (intsE l).length = l.length * 1 := len_enc _ 1 (fun _ => rfl) l
/-- The place of the first, or -1. -/
def idxF {α : Type} (p : α → Bool) : List α → Int → Int
  | [], _ => -1
  | x :: l, i => if p x = true then i else idxF p l (i + 1)
theorem idxF_any {α : Type} (p : α → Bool) (l : List α) : decide (idxF p l 0 ≥ 0) = l.any p := by
  have h : ∀ (l : List α) (i : Int), 0 ≤ i → (0 ≤ idxF p l i ↔ l.any p = true) := by
    intro l
    induction l with
    | nil => intro i _; simp [idxF]
    | cons x l ih =>
      intro i hi
      simp only [idxF]
      by_cases hx : p x = true
      · simp [hx, hi]
      · rw [if_neg hx, ih (i + 1) (by omega)]; simp [hx]
  rw [Bool.eq_iff_iff]
  simpa using h l 0 (Int.le_refl _)
abbrev intAV : Int → AV := fun x => .one (di x)
theorem index_int (l : List Int) (hl : l.length < 2 ^ 62) (p : Int → Bool) (f : Nat) (caps : List C) (hc : lendAs [] (caps.map AV.one) = some (caps.map fun c => .f (.one c)))
    (hp : ∀ x ∈ l, CallOK Tryz.prog f (.f (intAV x) :: caps.map fun c => .f (.one c)) (fun r o => r = [rb (p x)] ∧ o = [])) :
    CallOK Tryz.prog 88 [.f (al l.length (intsE l)), .f (.one (.clos f caps))] (fun r o => r = [ri (idxF p l 0)] ∧ o = []) := by
  refine callOK_of TOKTy mixed (T := Ty) (n := 19) Tryz.func88 (c := Tryz.f88.body.getD .skip) rfl Tryz.results88 Tryz.ntmps88 Tryz.call88 ?_
  simp only [Tryz.f88, Option.getD]
  repeat (first | with_reducible refine SeqQ_normal _ _ ?_ | with_reducible refine And.imp_right (SeqQ_normal _ _) ?_ | with_reducible refine And.imp_right (And.imp_right (SeqQ_normal _ _)) ?_ | with_reducible refine And.imp_right (And.imp_right (And.imp_right (SeqQ_normal _ _))) ?_ | rw [awp_seq] | simp only [pkS, TyB,  implies_true, forall_const, Nat.reduceSub, Nat.reduceEqDiff, Nat.reduceAdd, Nat.reduceMul, Nat.reduceLeDiff, Nat.reduceLT, Nat.reduceBEq, reduceCtorEq])
  refine LoopR_fn (τ := Nat) (fun i => ⟨[al l.length (intsE l), .one (.clos f caps), dd, dd, ai 0, dd, al l.length (intsE l), ai l.length, ai i, dd, dd, dd, dd, dd, dd, dd, dd, dd, dd], []⟩) (fun i => i ≤ l.length) (fun i => idxF p (l.drop i) i) (fun i => l.length - i) 0 (Gh.fgt ?_) (Nat.zero_le _) ?_
  · simp only [fgt_dead, fgt_same, fgt_nil, Int.natCast_zero]
  intro i hi0 hF K hK
  repeat (first | with_reducible refine SeqQ_normal _ _ ?_ | with_reducible refine And.imp_right (SeqQ_normal _ _) ?_ | with_reducible refine And.imp_right (And.imp_right (SeqQ_normal _ _)) ?_ | with_reducible refine And.imp_right (And.imp_right (And.imp_right (SeqQ_normal _ _))) ?_ | rw [awp_seq] | simp only [pkS, TyB,  implies_true, forall_const, Nat.reduceSub, Nat.reduceEqDiff, Nat.reduceAdd, Nat.reduceMul, Nat.reduceLeDiff, Nat.reduceLT, Nat.reduceBEq, reduceCtorEq])
  rw [CondR_bool]
  refine ⟨trivial, fun hlt => ?_, fun hge => ?_⟩
  · have hi : i < l.length := by simpa using hlt
    rw [List.drop_eq_getElem_cons hi, idxF] at hF
    have hat := ints_at hi
    simp only [List.cons_append, List.nil_append] at hat
    repeat (first | with_reducible refine SeqQ_normal _ _ ?_ | with_reducible refine And.imp_right (SeqQ_normal _ _) ?_ | with_reducible refine And.imp_right (And.imp_right (SeqQ_normal _ _)) ?_ | with_reducible refine And.imp_right (And.imp_right (And.imp_right (SeqQ_normal _ _))) ?_ | rw [awp_seq] | simp only [pkS, TyB, ints_len, hat, hc, implies_true, forall_const, Nat.reduceSub, Nat.reduceEqDiff, Nat.reduceAdd, Nat.reduceMul, Nat.reduceLeDiff, Nat.reduceLT, Nat.reduceBEq, reduceCtorEq])
    refine ⟨⟨Int.natCast_nonneg i, by omega⟩, ?_⟩
    refine CallR_of (hp _ (List.getElem_mem hi)) ?_
    repeat (first | with_reducible refine SeqQ_normal _ _ ?_ | with_reducible refine And.imp_right (SeqQ_normal _ _) ?_ | with_reducible refine And.imp_right (And.imp_right (SeqQ_normal _ _)) ?_ | with_reducible refine And.imp_right (And.imp_right (And.imp_right (SeqQ_normal _ _))) ?_ | rw [awp_seq] | simp only [pkS, TyB,  implies_true, forall_const, Nat.reduceSub, Nat.reduceEqDiff, Nat.reduceAdd, Nat.reduceMul, Nat.reduceLeDiff, Nat.reduceLT, Nat.reduceBEq, reduceCtorEq])
    refine CondR_of (fun hb => ?_) (fun hb => ?_)
    · rw [if_pos hb] at hF
      repeat (first | with_reducible refine SeqQ_normal _ _ ?_ | with_reducible refine And.imp_right (SeqQ_normal _ _) ?_ | with_reducible refine And.imp_right (And.imp_right (SeqQ_normal _ _)) ?_ | with_reducible refine And.imp_right (And.imp_right (And.imp_right (SeqQ_normal _ _))) ?_ | rw [awp_seq] | simp only [pkS, TyB,  implies_true, forall_const, Nat.reduceSub, Nat.reduceEqDiff, Nat.reduceAdd, Nat.reduceMul, Nat.reduceLeDiff, Nat.reduceLT, Nat.reduceBEq, reduceCtorEq])
      rw [hF]; rfl
    · rw [if_neg (by simp [hb])] at hF
      repeat (first | with_reducible refine SeqQ_normal _ _ ?_ | with_reducible refine And.imp_right (SeqQ_normal _ _) ?_ | with_reducible refine And.imp_right (And.imp_right (SeqQ_normal _ _)) ?_ | with_reducible refine And.imp_right (And.imp_right (And.imp_right (SeqQ_normal _ _))) ?_ | rw [awp_seq] | simp only [pkS, TyB,  implies_true, forall_const, Nat.reduceSub, Nat.reduceEqDiff, Nat.reduceAdd, Nat.reduceMul, Nat.reduceLeDiff, Nat.reduceLT, Nat.reduceBEq, reduceCtorEq])
      refine hK _ (i + 1) (Gh.fgt ?_) hi (by simp only [List.drop_eq_getElem_cons hi, idxF]; rw [if_neg (by simp [hb])]; rfl) (by omega)
      have hw : IntKind.i64.wrap ((i : Int) + 1) = ((i + 1 : Nat) : Int) := by rw [wrap64 (by omega) (by omega)]; rfl
      simp only [hw, fgt_dead, fgt_same, fgt_nil]
  · have hi : i = l.length := by
      have : ¬ (i : Int) < l.length := by simpa using hge
      omega
    rw [hi, List.drop_length, idxF] at hF
    repeat (first | with_reducible refine SeqQ_normal _ _ ?_ | with_reducible refine And.imp_right (SeqQ_normal _ _) ?_ | with_reducible refine And.imp_right (And.imp_right (SeqQ_normal _ _)) ?_ | with_reducible refine And.imp_right (And.imp_right (And.imp_right (SeqQ_normal _ _))) ?_ | rw [awp_seq] | simp only [pkS, TyB,  implies_true, forall_const, Nat.reduceSub, Nat.reduceEqDiff, Nat.reduceAdd, Nat.reduceMul, Nat.reduceLeDiff, Nat.reduceLT, Nat.reduceBEq, reduceCtorEq])
    rw [hF]; rfl
theorem contains_int (l : List Int) (hl : l.length < 2 ^ 62) (p : Int → Bool) (f : Nat) (caps : List C) (hc : lendAs [] (caps.map AV.one) = some (caps.map fun c => .f (.one c))) (hc2 : lendC.lendCs [] caps = some caps)
    (hp : ∀ x ∈ l, CallOK Tryz.prog f (.f (intAV x) :: caps.map fun c => .f (.one c)) (fun r o => r = [rb (p x)] ∧ o = [])) :
    CallOK Tryz.prog 73 [.f (al l.length (intsE l)), .f (.one (.clos f caps))] (fun r o => r = [rb (l.any p)] ∧ o = []) := by
  refine callOK_of TOKTy mixed (T := Ty) (n := 9) Tryz.func73 (c := Tryz.f73.body.getD .skip) rfl Tryz.results73 Tryz.ntmps73 Tryz.call73 ?_
  simp only [Tryz.f73, Option.getD]
  repeat (first | with_reducible refine SeqQ_normal _ _ ?_ | with_reducible refine And.imp_right (SeqQ_normal _ _) ?_ | with_reducible refine And.imp_right (And.imp_right (SeqQ_normal _ _)) ?_ | with_reducible refine And.imp_right (And.imp_right (And.imp_right (SeqQ_normal _ _))) ?_ | rw [awp_seq] | simp only [pkS, TyB, hc2, implies_true, forall_const, Nat.reduceSub, Nat.reduceEqDiff, Nat.reduceAdd, Nat.reduceMul, Nat.reduceLeDiff, Nat.reduceLT, Nat.reduceBEq, reduceCtorEq])
  refine CallR_of (index_int l hl p f caps hc hp) ?_
  repeat (first | with_reducible refine SeqQ_normal _ _ ?_ | with_reducible refine And.imp_right (SeqQ_normal _ _) ?_ | with_reducible refine And.imp_right (And.imp_right (SeqQ_normal _ _)) ?_ | with_reducible refine And.imp_right (And.imp_right (And.imp_right (SeqQ_normal _ _))) ?_ | rw [awp_seq] | simp only [pkS, TyB,  implies_true, forall_const, Nat.reduceSub, Nat.reduceEqDiff, Nat.reduceAdd, Nat.reduceMul, Nat.reduceLeDiff, Nat.reduceLT, Nat.reduceBEq, reduceCtorEq])
  rw [idxF_any]
abbrev reqAV : Req → AV := fun x => .agg (x.enc.map C.d)
theorem index_req (l : List Req) (hl : l.length < 2 ^ 62) (p : Req → Bool) (f : Nat) (caps : List C) (hc : lendAs [] (caps.map AV.one) = some (caps.map fun c => .f (.one c)))
    (hp : ∀ x ∈ l, CallOK Tryz.prog f (.f (reqAV x) :: caps.map fun c => .f (.one c)) (fun r o => r = [rb (p x)] ∧ o = [])) :
    CallOK Tryz.prog 85 [.f (al l.length (reqsE l)), .f (.one (.clos f caps))] (fun r o => r = [ri (idxF p l 0)] ∧ o = []) := by
  refine callOK_of TOKTy mixed (T := Ty) (n := 19) Tryz.func85 (c := Tryz.f85.body.getD .skip) rfl Tryz.results85 Tryz.ntmps85 Tryz.call85 ?_
  simp only [Tryz.f85, Option.getD]
  repeat (first | with_reducible refine SeqQ_normal _ _ ?_ | with_reducible refine And.imp_right (SeqQ_normal _ _) ?_ | with_reducible refine And.imp_right (And.imp_right (SeqQ_normal _ _)) ?_ | with_reducible refine And.imp_right (And.imp_right (And.imp_right (SeqQ_normal _ _))) ?_ | rw [awp_seq] | simp only [pkS, TyB,  implies_true, forall_const, Nat.reduceSub, Nat.reduceEqDiff, Nat.reduceAdd, Nat.reduceMul, Nat.reduceLeDiff, Nat.reduceLT, Nat.reduceBEq, reduceCtorEq])
  refine LoopR_fn (τ := Nat) (fun i => ⟨[al l.length (reqsE l), .one (.clos f caps), dd, dd, ai 0, dd, al l.length (reqsE l), ai l.length, ai i, dd, dd, dd, dd, dd, dd, dd, dd, dd, dd], []⟩) (fun i => i ≤ l.length) (fun i => idxF p (l.drop i) i) (fun i => l.length - i) 0 (Gh.fgt ?_) (Nat.zero_le _) ?_
  · simp only [fgt_dead, fgt_same, fgt_nil, Int.natCast_zero]
  intro i hi0 hF K hK
  repeat (first | with_reducible refine SeqQ_normal _ _ ?_ | with_reducible refine And.imp_right (SeqQ_normal _ _) ?_ | with_reducible refine And.imp_right (And.imp_right (SeqQ_normal _ _)) ?_ | with_reducible refine And.imp_right (And.imp_right (And.imp_right (SeqQ_normal _ _))) ?_ | rw [awp_seq] | simp only [pkS, TyB,  implies_true, forall_const, Nat.reduceSub, Nat.reduceEqDiff, Nat.reduceAdd, Nat.reduceMul, Nat.reduceLeDiff, Nat.reduceLT, Nat.reduceBEq, reduceCtorEq])
  rw [CondR_bool]
  refine ⟨trivial, fun hlt => ?_, fun hge => ?_⟩
  · have hi : i < l.length := by simpa using hlt
    rw [List.drop_eq_getElem_cons hi, idxF] at hF
    have hat := reqs_at hi
    simp only [List.cons_append, List.nil_append] at hat
    repeat (first | with_reducible refine SeqQ_normal _ _ ?_ | with_reducible refine And.imp_right (SeqQ_normal _ _) ?_ | with_reducible refine And.imp_right (And.imp_right (SeqQ_normal _ _)) ?_ | with_reducible refine And.imp_right (And.imp_right (And.imp_right (SeqQ_normal _ _))) ?_ | rw [awp_seq] | simp only [pkS, TyB, reqs_len, hat, hc, implies_true, forall_const, Nat.reduceSub, Nat.reduceEqDiff, Nat.reduceAdd, Nat.reduceMul, Nat.reduceLeDiff, Nat.reduceLT, Nat.reduceBEq, reduceCtorEq])
    refine ⟨⟨Int.natCast_nonneg i, by omega⟩, ?_⟩
    refine CallR_of (hp _ (List.getElem_mem hi)) ?_
    repeat (first | with_reducible refine SeqQ_normal _ _ ?_ | with_reducible refine And.imp_right (SeqQ_normal _ _) ?_ | with_reducible refine And.imp_right (And.imp_right (SeqQ_normal _ _)) ?_ | with_reducible refine And.imp_right (And.imp_right (And.imp_right (SeqQ_normal _ _))) ?_ | rw [awp_seq] | simp only [pkS, TyB,  implies_true, forall_const, Nat.reduceSub, Nat.reduceEqDiff, Nat.reduceAdd, Nat.reduceMul, Nat.reduceLeDiff, Nat.reduceLT, Nat.reduceBEq, reduceCtorEq])
    refine CondR_of (fun hb => ?_) (fun hb => ?_)
    · rw [if_pos hb] at hF
      repeat (first | with_reducible refine SeqQ_normal _ _ ?_ | with_reducible refine And.imp_right (SeqQ_normal _ _) ?_ | with_reducible refine And.imp_right (And.imp_right (SeqQ_normal _ _)) ?_ | with_reducible refine And.imp_right (And.imp_right (And.imp_right (SeqQ_normal _ _))) ?_ | rw [awp_seq] | simp only [pkS, TyB,  implies_true, forall_const, Nat.reduceSub, Nat.reduceEqDiff, Nat.reduceAdd, Nat.reduceMul, Nat.reduceLeDiff, Nat.reduceLT, Nat.reduceBEq, reduceCtorEq])
      rw [hF]; rfl
    · rw [if_neg (by simp [hb])] at hF
      repeat (first | with_reducible refine SeqQ_normal _ _ ?_ | with_reducible refine And.imp_right (SeqQ_normal _ _) ?_ | with_reducible refine And.imp_right (And.imp_right (SeqQ_normal _ _)) ?_ | with_reducible refine And.imp_right (And.imp_right (And.imp_right (SeqQ_normal _ _))) ?_ | rw [awp_seq] | simp only [pkS, TyB,  implies_true, forall_const, Nat.reduceSub, Nat.reduceEqDiff, Nat.reduceAdd, Nat.reduceMul, Nat.reduceLeDiff, Nat.reduceLT, Nat.reduceBEq, reduceCtorEq])
      refine hK _ (i + 1) (Gh.fgt ?_) hi (by simp only [List.drop_eq_getElem_cons hi, idxF]; rw [if_neg (by simp [hb])]; rfl) (by omega)
      have hw : IntKind.i64.wrap ((i : Int) + 1) = ((i + 1 : Nat) : Int) := by rw [wrap64 (by omega) (by omega)]; rfl
      simp only [hw, fgt_dead, fgt_same, fgt_nil]
  · have hi : i = l.length := by
      have : ¬ (i : Int) < l.length := by simpa using hge
      omega
    rw [hi, List.drop_length, idxF] at hF
    repeat (first | with_reducible refine SeqQ_normal _ _ ?_ | with_reducible refine And.imp_right (SeqQ_normal _ _) ?_ | with_reducible refine And.imp_right (And.imp_right (SeqQ_normal _ _)) ?_ | with_reducible refine And.imp_right (And.imp_right (And.imp_right (SeqQ_normal _ _))) ?_ | rw [awp_seq] | simp only [pkS, TyB,  implies_true, forall_const, Nat.reduceSub, Nat.reduceEqDiff, Nat.reduceAdd, Nat.reduceMul, Nat.reduceLeDiff, Nat.reduceLT, Nat.reduceBEq, reduceCtorEq])
    rw [hF]; rfl
theorem contains_req (l : List Req) (hl : l.length < 2 ^ 62) (p : Req → Bool) (f : Nat) (caps : List C) (hc : lendAs [] (caps.map AV.one) = some (caps.map fun c => .f (.one c))) (hc2 : lendC.lendCs [] caps = some caps)
    (hp : ∀ x ∈ l, CallOK Tryz.prog f (.f (reqAV x) :: caps.map fun c => .f (.one c)) (fun r o => r = [rb (p x)] ∧ o = [])) :
    CallOK Tryz.prog 68 [.f (al l.length (reqsE l)), .f (.one (.clos f caps))] (fun r o => r = [rb (l.any p)] ∧ o = []) := by
  refine callOK_of TOKTy mixed (T := Ty) (n := 9) Tryz.func68 (c := Tryz.f68.body.getD .skip) rfl Tryz.results68 Tryz.ntmps68 Tryz.call68 ?_
  simp only [Tryz.f68, Option.getD]
  repeat (first | with_reducible refine SeqQ_normal _ _ ?_ | with_reducible refine And.imp_right (SeqQ_normal _ _) ?_ | with_reducible refine And.imp_right (And.imp_right (SeqQ_normal _ _)) ?_ | with_reducible refine And.imp_right (And.imp_right (And.imp_right (SeqQ_normal _ _))) ?_ | rw [awp_seq] | simp only [pkS, TyB, hc2, implies_true, forall_const, Nat.reduceSub, Nat.reduceEqDiff, Nat.reduceAdd, Nat.reduceMul, Nat.reduceLeDiff, Nat.reduceLT, Nat.reduceBEq, reduceCtorEq])
  refine CallR_of (index_req l hl p f caps hc hp) ?_
  repeat (first | with_reducible refine SeqQ_normal _ _ ?_ | with_reducible refine And.imp_right (SeqQ_normal _ _) ?_ | with_reducible refine And.imp_right (And.imp_right (SeqQ_normal _ _)) ?_ | with_reducible refine And.imp_right (And.imp_right (And.imp_right (SeqQ_normal _ _))) ?_ | rw [awp_seq] | simp only [pkS, TyB,  implies_true, forall_const, Nat.reduceSub, Nat.reduceEqDiff, Nat.reduceAdd, Nat.reduceMul, Nat.reduceLeDiff, Nat.reduceLT, Nat.reduceBEq, reduceCtorEq])
  rw [idxF_any]
abbrev promiseAV : Prom → AV := fun x => .agg (x.enc.map C.d)
theorem index_promise (l : List Prom) (hl : l.length < 2 ^ 62) (p : Prom → Bool) (f : Nat) (caps : List C) (hc : lendAs [] (caps.map AV.one) = some (caps.map fun c => .f (.one c)))
    (hp : ∀ x ∈ l, CallOK Tryz.prog f (.f (promiseAV x) :: caps.map fun c => .f (.one c)) (fun r o => r = [rb (p x)] ∧ o = [])) :
    CallOK Tryz.prog 90 [.f (al l.length (promisesE l)), .f (.one (.clos f caps))] (fun r o => r = [ri (idxF p l 0)] ∧ o = []) := by
  refine callOK_of TOKTy mixed (T := Ty) (n := 19) Tryz.func90 (c := Tryz.f90.body.getD .skip) rfl Tryz.results90 Tryz.ntmps90 Tryz.call90 ?_
  simp only [Tryz.f90, Option.getD]
  repeat (first | with_reducible refine SeqQ_normal _ _ ?_ | with_reducible refine And.imp_right (SeqQ_normal _ _) ?_ | with_reducible refine And.imp_right (And.imp_right (SeqQ_normal _ _)) ?_ | with_reducible refine And.imp_right (And.imp_right (And.imp_right (SeqQ_normal _ _))) ?_ | rw [awp_seq] | simp only [pkS, TyB,  implies_true, forall_const, Nat.reduceSub, Nat.reduceEqDiff, Nat.reduceAdd, Nat.reduceMul, Nat.reduceLeDiff, Nat.reduceLT, Nat.reduceBEq, reduceCtorEq])
  refine LoopR_fn (τ := Nat) (fun i => ⟨[al l.length (promisesE l), .one (.clos f caps), dd, dd, ai 0, dd, al l.length (promisesE l), ai l.length, ai i, dd, dd, dd, dd, dd, dd, dd, dd, dd, dd], []⟩) (fun i => i ≤ l.length) (fun i => idxF p (l.drop i) i) (fun i => l.length - i) 0 (Gh.fgt ?_) (Nat.zero_le _) ?_
  · simp only [fgt_dead, fgt_same, fgt_nil, Int.natCast_zero]
  intro i hi0 hF K hK
  repeat (first | with_reducible refine SeqQ_normal _ _ ?_ | with_reducible refine And.imp_right (SeqQ_normal _ _) ?_ | with_reducible refine And.imp_right (And.imp_right (SeqQ_normal _ _)) ?_ | with_reducible refine And.imp_right (And.imp_right (And.imp_right (SeqQ_normal _ _))) ?_ | rw [awp_seq] | simp only [pkS, TyB,  implies_true, forall_const, Nat.reduceSub, Nat.reduceEqDiff, Nat.reduceAdd, Nat.reduceMul, Nat.reduceLeDiff, Nat.reduceLT, Nat.reduceBEq, reduceCtorEq])
  rw [CondR_bool]
  refine ⟨trivial, fun hlt => ?_, fun hge => ?_⟩
  · have hi : i < l.length := by simpa using hlt
    rw [List.drop_eq_getElem_cons hi, idxF] at hF
    have hat := promises_at hi
    simp only [List.cons_append, List.nil_append] at hat
    repeat (first | with_reducible refine SeqQ_normal _ _ ?_ | with_reducible refine And.imp_right (SeqQ_normal _ _) ?_ | with_reducible refine And.imp_right (And.imp_right (SeqQ_normal _ _)) ?_ | with_reducible refine And.imp_right (And.imp_right (And.imp_right (SeqQ_normal _ _))) ?_ | rw [awp_seq] | simp only [pkS, TyB, promises_len, hat, hc, implies_true, forall_const, Nat.reduceSub, Nat.reduceEqDiff, Nat.reduceAdd, Nat.reduceMul, Nat.reduceLeDiff, Nat.reduceLT, Nat.reduceBEq, reduceCtorEq])
    refine ⟨⟨Int.natCast_nonneg i, by omega⟩, ?_⟩
    refine CallR_of (hp _ (List.getElem_mem hi)) ?_
    repeat (first | with_reducible refine SeqQ_normal _ _ ?_ | with_reducible refine And.imp_right (SeqQ_normal _ _) ?_ | with_reducible refine And.imp_right (And.imp_right (SeqQ_normal _ _)) ?_ | with_reducible refine And.imp_right (And.imp_right (And.imp_right (SeqQ_normal _ _))) ?_ | rw [awp_seq] | simp only [pkS, TyB,  implies_true, forall_const, Nat.reduceSub, Nat.reduceEqDiff, Nat.reduceAdd, Nat.reduceMul, Nat.reduceLeDiff, Nat.reduceLT, Nat.reduceBEq, reduceCtorEq])
    refine CondR_of (fun hb => ?_) (fun hb => ?_)
    · rw [if_pos hb] at hF
      repeat (first | with_reducible refine SeqQ_normal _ _ ?_ | with_reducible refine And.imp_right (SeqQ_normal _ _) ?_ | with_reducible refine And.imp_right (And.imp_right (SeqQ_normal _ _)) ?_ | with_reducible refine And.imp_right (And.imp_right (And.imp_right (SeqQ_normal _ _))) ?_ | rw [awp_seq] | simp only [pkS, TyB,  implies_true, forall_const, Nat.reduceSub, Nat.reduceEqDiff, Nat.reduceAdd, Nat.reduceMul, Nat.reduceLeDiff, Nat.reduceLT, Nat.reduceBEq, reduceCtorEq])
      rw [hF]; rfl
    · rw [if_neg (by simp [hb])] at hF
      repeat (first | with_reducible refine SeqQ_normal _ _ ?_ | with_reducible refine And.imp_right (SeqQ_normal _ _) ?_ | with_reducible refine And.imp_right (And.imp_right (SeqQ_normal _ _)) ?_ | with_reducible refine And.imp_right (And.imp_right (And.imp_right (SeqQ_normal _ _))) ?_ | rw [awp_seq] | simp only [pkS, TyB,  implies_true, forall_const, Nat.reduceSub, Nat.reduceEqDiff, Nat.reduceAdd, Nat.reduceMul, Nat.reduceLeDiff, Nat.reduceLT, Nat.reduceBEq, reduceCtorEq])
      refine hK _ (i + 1) (Gh.fgt ?_) hi (by simp only [List.drop_eq_getElem_cons hi, idxF]; rw [if_neg (by simp [hb])]; rfl) (by omega)
      have hw : IntKind.i64.wrap ((i : Int) + 1) = ((i + 1 : Nat) : Int) := by rw [wrap64 (by omega) (by omega)]; rfl
      simp only [hw, fgt_dead, fgt_same, fgt_nil]
  · have hi : i = l.length := by
      have : ¬ (i : Int) < l.length := by simpa using hge
      omega
    rw [hi, List.drop_length, idxF] at hF
    repeat (first | with_reducible refine SeqQ_normal _ _ ?_ | with_reducible refine And.imp_right (SeqQ_normal _ _) ?_ | with_reducible refine And.imp_right (And.imp_right (SeqQ_normal _ _)) ?_ | with_reducible refine And.imp_right (And.imp_right (And.imp_right (SeqQ_normal _ _))) ?_ | rw [awp_seq] | simp only [pkS, TyB,  implies_true, forall_const, Nat.reduceSub, Nat.reduceEqDiff, Nat.reduceAdd, Nat.reduceMul, Nat.reduceLeDiff, Nat.reduceLT, Nat.reduceBEq, reduceCtorEq])
    rw [hF]; rfl
theorem contains_promise (l : List Prom) (hl : l.length < 2 ^ 62) (p : Prom → Bool) (f : Nat) (caps : List C) (hc : lendAs [] (caps.map AV.one) = some (caps.map fun c => .f (.one c))) (hc2 : lendC.lendCs [] caps = some caps)
    (hp : ∀ x ∈ l, CallOK Tryz.prog f (.f (promiseAV x) :: caps.map fun c => .f (.one c)) (fun r o => r = [rb (p x)] ∧ o = [])) :
    CallOK Tryz.prog 76 [.f (al l.length (promisesE l)), .f (.one (.clos f caps))] (fun r o => r = [rb (l.any p)] ∧ o = []) := by
  refine callOK_of TOKTy mixed (T := Ty) (n := 9) Tryz.func76 (c := Tryz.f76.body.getD .skip) rfl Tryz.results76 Tryz.ntmps76 Tryz.call76 ?_
  simp only [Tryz.f76, Option.getD]
  repeat (first | with_reducible refine SeqQ_normal _ _ ?_ | with_reducible refine And.imp_right (SeqQ_normal _ _) ?_ | with_reducible refine And.imp_right (And.imp_right (SeqQ_normal _ _)) ?_ | with_reducible refine And.imp_right (And.imp_right (And.imp_right (SeqQ_normal _ _))) ?_ | rw [awp_seq] | simp only [pkS, TyB, hc2, implies_true, forall_const, Nat.reduceSub, Nat.reduceEqDiff, Nat.reduceAdd, Nat.reduceMul, Nat.reduceLeDiff, Nat.reduceLT, Nat.reduceBEq, reduceCtorEq])
  refine CallR_of (index_promise l hl p f caps hc hp) ?_
  repeat (first | with_reducible refine SeqQ_normal _ _ ?_ | with_reducible refine And.imp_right (SeqQ_normal _ _) ?_ | with_reducible refine And.imp_right (And.imp_right (SeqQ_normal _ _)) ?_ | with_reducible refine And.imp_right (And.imp_right (And.imp_right (SeqQ_normal _ _))) ?_ | rw [awp_seq] | simp only [pkS, TyB,  implies_true, forall_const, Nat.reduceSub, Nat.reduceEqDiff, Nat.reduceAdd, Nat.reduceMul, Nat.reduceLeDiff, Nat.reduceLT, Nat.reduceBEq, reduceCtorEq])
  rw [idxF_any]
end Go.Proofs.YtgiempmfpmlgnaaGreat

