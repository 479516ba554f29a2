import Derived.Test.YtniafckaafcpbaaC
namespace Go.Proofs.Ytniafckaafcpbaa
open Go.Pk
set_option maxRecDepth 100000
set_option linter.unusedSimpArgs false
set_option linter.unusedVariables false
def idxF {α : Type} (p : α → Bool) : List α → Int → Int
  | [], _ => -1
  | x :: l, i => if p x = true then i else idxF p l (i + 1)
theorem zdG {α : Type} (p : α → Bool) (l : List α) : decide (idxF p l 0 ≥ 0) = l.any p := by
  have h : ∀ (l : List α) (i : Int), 0 ≤ i → (0 ≤ idxF p l i ↔ l.any p = true) := by
    intro l
    induction l with
    | nil => intro i _; simp [idxF]
    | cons x l ih =>
      intro i hi
      simp only [idxF]
      by_cases hx : p x = true
      · simp [hx, hi]
      · rw [if_neg hx, ih (i + 1) (by omega)]; simp [hx]
  rw [Bool.eq_iff_iff]
  simpa using h l 0 (Int.le_refl _)
theorem zc9 {k : Nat} : toDs (sub 0 0 k []) = some [] := by unfold sub; simp [toDs]
theorem rfs1 {a b : RO} : rfsLe [.one a] [.one b] = (roLe a b ∧ True) := rfl
theorem zaI {i n : Nat} (h : i < n) (hn : n < 2 ^ 62) : IntKind.i64.wrap ((i : Int) + 1) = ((i + 1 : Nat) : Int) := by rw [wrap64 (by omega) (by omega)]; rfl
theorem zfR {n : Nat} (h : n < 2 ^ 63) : IntKind.u64.wrap (n : Int) = n := by
  unfold IntKind.wrap
  simp [IntKind.signed, IntKind.bits]
  omega
theorem bad_x : Go.Pk.bad.x = .one .dead := rfl
abbrev intAV : Int → AV := fun x => .one (di x)
abbrev sessAV : Sess → AV := fun x => .agg (x.enc.map C.d)
abbrev lockAV : Lk → AV := fun x => .agg (x.enc.map C.d)
abbrev memoAV : Memo → AV := fun x => .agg (x.enc.map C.d)
theorem index_int (l : List Int) (hl : l.length < 2 ^ 62) (p : Int → Bool) (f : Nat) (caps : List C) (hc : lendAs [] (caps.map AV.one) = some (caps.map fun c => .f (.one c)))
    (hp : ∀ x ∈ l, CallOK Try.prog f (.f (intAV x) :: caps.map fun c => .f (.one c)) (fun r o => r = [rb (p x)] ∧ o = [])) :
    CallOK Try.prog 97 [.f (al l.length (intsE l)), .f (.one (.clos f caps))] (fun r o => r = [ri (idxF p l 0)] ∧ o = []) := by
  refine zaq zaG mixed (T := Ty) (n := 19) Try.func97 (c := Try.f97.body.getD .skip) rfl Try.results97 Try.ntmps97 Try.call97 ?_
  simp only [Try.f97, Option.getD]
  repeat (first | with_reducible refine zaa _ _ ?_ | with_reducible refine And.imp_right (zaa _ _) ?_ | with_reducible refine And.imp_right (And.imp_right (zaa _ _)) ?_ | with_reducible refine And.imp_right (And.imp_right (And.imp_right (zaa _ _))) ?_ | rw [zae] | simp only [pkS, TyB,  implies_true, forall_const, Nat.reduceSub, Nat.reduceEqDiff, Nat.reduceAdd, Nat.reduceMul, Nat.reduceLeDiff, Nat.reduceLT, Nat.reduceBEq, reduceCtorEq])
  refine zaH (τ := Nat) (fun i => ⟨[al l.length (intsE l), .one (.clos f caps), dd, dd, ai 0, dd, al l.length (intsE l), ai l.length, ai i, dd, dd, dd, dd, dd, dd, dd, dd, dd, dd], []⟩) (fun i => i ≤ l.length) (fun i => idxF p (l.drop i) i) (fun i => l.length - i) 0 (Gh.fgt ?_) (Nat.zero_le _) ?_
  · simp only [zaQ, zaR, za6, Int.natCast_zero]
  intro i hi0 hF K hK
  repeat (first | with_reducible refine zaa _ _ ?_ | with_reducible refine And.imp_right (zaa _ _) ?_ | with_reducible refine And.imp_right (And.imp_right (zaa _ _)) ?_ | with_reducible refine And.imp_right (And.imp_right (And.imp_right (zaa _ _))) ?_ | rw [zae] | simp only [pkS, TyB,  implies_true, forall_const, Nat.reduceSub, Nat.reduceEqDiff, Nat.reduceAdd, Nat.reduceMul, Nat.reduceLeDiff, Nat.reduceLT, Nat.reduceBEq, reduceCtorEq])
  rw [zcb]
  refine ⟨trivial, fun hlt => ?_, fun hge => ?_⟩
  · have hi : i < l.length := by simpa using hlt
    rw [List.drop_eq_getElem_cons hi, idxF] at hF
    have hat := ints_at hi
    simp only [List.cons_append, List.nil_append] at hat
    repeat (first | with_reducible refine zaa _ _ ?_ | with_reducible refine And.imp_right (zaa _ _) ?_ | with_reducible refine And.imp_right (And.imp_right (zaa _ _)) ?_ | with_reducible refine And.imp_right (And.imp_right (And.imp_right (zaa _ _))) ?_ | rw [zae] | simp only [pkS, TyB, zhE, hat, hc, implies_true, forall_const, Nat.reduceSub, Nat.reduceEqDiff, Nat.reduceAdd, Nat.reduceMul, Nat.reduceLeDiff, Nat.reduceLT, Nat.reduceBEq, reduceCtorEq])
    refine ⟨⟨Int.natCast_nonneg i, by omega⟩, ?_⟩
    refine zan (hp _ (List.getElem_mem hi)) ?_
    repeat (first | with_reducible refine zaa _ _ ?_ | with_reducible refine And.imp_right (zaa _ _) ?_ | with_reducible refine And.imp_right (And.imp_right (zaa _ _)) ?_ | with_reducible refine And.imp_right (And.imp_right (And.imp_right (zaa _ _))) ?_ | rw [zae] | simp only [pkS, TyB,  implies_true, forall_const, Nat.reduceSub, Nat.reduceEqDiff, Nat.reduceAdd, Nat.reduceMul, Nat.reduceLeDiff, Nat.reduceLT, Nat.reduceBEq, reduceCtorEq])
    refine zad (fun hb => ?_) (fun hb => ?_)
    · rw [if_pos hb] at hF
      repeat (first | with_reducible refine zaa _ _ ?_ | with_reducible refine And.imp_right (zaa _ _) ?_ | with_reducible refine And.imp_right (And.imp_right (zaa _ _)) ?_ | with_reducible refine And.imp_right (And.imp_right (And.imp_right (zaa _ _))) ?_ | rw [zae] | simp only [pkS, TyB,  implies_true, forall_const, Nat.reduceSub, Nat.reduceEqDiff, Nat.reduceAdd, Nat.reduceMul, Nat.reduceLeDiff, Nat.reduceLT, Nat.reduceBEq, reduceCtorEq])
      rw [hF]; rfl
    · rw [if_neg (by simp [hb])] at hF
      repeat (first | with_reducible refine zaa _ _ ?_ | with_reducible refine And.imp_right (zaa _ _) ?_ | with_reducible refine And.imp_right (And.imp_right (zaa _ _)) ?_ | with_reducible refine And.imp_right (And.imp_right (And.imp_right (zaa _ _))) ?_ | rw [zae] | simp only [pkS, TyB,  implies_true, forall_const, Nat.reduceSub, Nat.reduceEqDiff, Nat.reduceAdd, Nat.reduceMul, Nat.reduceLeDiff, Nat.reduceLT, Nat.reduceBEq, reduceCtorEq])
      refine hK _ (i + 1) (Gh.fgt ?_) hi (by simp only [List.drop_eq_getElem_cons hi, idxF]; rw [if_neg (by simp [hb])]; rfl) (by omega)
      have hw : IntKind.i64.wrap ((i : Int) + 1) = ((i + 1 : Nat) : Int) := by rw [wrap64 (by omega) (by omega)]; rfl
      simp only [hw, zaQ, zaR, za6]
  · have hi : i = l.length := by
      have : ¬ (i : Int) < l.length := by simpa using hge
      omega
    rw [hi, List.drop_length, idxF] at hF
    repeat (first | with_reducible refine zaa _ _ ?_ | with_reducible refine And.imp_right (zaa _ _) ?_ | with_reducible refine And.imp_right (And.imp_right (zaa _ _)) ?_ | with_reducible refine And.imp_right (And.imp_right (And.imp_right (zaa _ _))) ?_ | rw [zae] | simp only [pkS, TyB,  implies_true, forall_const, Nat.reduceSub, Nat.reduceEqDiff, Nat.reduceAdd, Nat.reduceMul, Nat.reduceLeDiff, Nat.reduceLT, Nat.reduceBEq, reduceCtorEq])
    rw [hF]; rfl
theorem zfl (l : List Sess) (hl : l.length < 2 ^ 62) (p : Sess → Bool) (f : Nat) (caps : List C) (hc : lendAs [] (caps.map AV.one) = some (caps.map fun c => .f (.one c)))
    (hp : ∀ x ∈ l, CallOK Try.prog f (.f (sessAV x) :: caps.map fun c => .f (.one c)) (fun r o => r = [rb (p x)] ∧ o = [])) :
    CallOK Try.prog 62 [.f (al l.length (sessE l)), .f (.one (.clos f caps))] (fun r o => r = [ri (idxF p l 0)] ∧ o = []) := by
  refine zaq zaG mixed (T := Ty) (n := 19) Try.func62 (c := Try.f62.body.getD .skip) rfl Try.results62 Try.ntmps62 Try.call62 ?_
  simp only [Try.f62, Option.getD]
  repeat (first | with_reducible refine zaa _ _ ?_ | with_reducible refine And.imp_right (zaa _ _) ?_ | with_reducible refine And.imp_right (And.imp_right (zaa _ _)) ?_ | with_reducible refine And.imp_right (And.imp_right (And.imp_right (zaa _ _))) ?_ | rw [zae] | simp only [pkS, TyB,  implies_true, forall_const, Nat.reduceSub, Nat.reduceEqDiff, Nat.reduceAdd, Nat.reduceMul, Nat.reduceLeDiff, Nat.reduceLT, Nat.reduceBEq, reduceCtorEq])
  refine zaH (τ := Nat) (fun i => ⟨[al l.length (sessE l), .one (.clos f caps), dd, dd, ai 0, dd, al l.length (sessE l), ai l.length, ai i, dd, dd, dd, dd, dd, dd, dd, dd, dd, dd], []⟩) (fun i => i ≤ l.length) (fun i => idxF p (l.drop i) i) (fun i => l.length - i) 0 (Gh.fgt ?_) (Nat.zero_le _) ?_
  · simp only [zaQ, zaR, za6, Int.natCast_zero]
  intro i hi0 hF K hK
  repeat (first | with_reducible refine zaa _ _ ?_ | with_reducible refine And.imp_right (zaa _ _) ?_ | with_reducible refine And.imp_right (And.imp_right (zaa _ _)) ?_ | with_reducible refine And.imp_right (And.imp_right (And.imp_right (zaa _ _))) ?_ | rw [zae] | simp only [pkS, TyB,  implies_true, forall_const, Nat.reduceSub, Nat.reduceEqDiff, Nat.reduceAdd, Nat.reduceMul, Nat.reduceLeDiff, Nat.reduceLT, Nat.reduceBEq, reduceCtorEq])
  rw [zcb]
  refine ⟨trivial, fun hlt => ?_, fun hge => ?_⟩
  · have hi : i < l.length := by simpa using hlt
    rw [List.drop_eq_getElem_cons hi, idxF] at hF
    have hat := zbo hi
    simp only [List.cons_append, List.nil_append] at hat
    repeat (first | with_reducible refine zaa _ _ ?_ | with_reducible refine And.imp_right (zaa _ _) ?_ | with_reducible refine And.imp_right (And.imp_right (zaa _ _)) ?_ | with_reducible refine And.imp_right (And.imp_right (And.imp_right (zaa _ _))) ?_ | rw [zae] | simp only [pkS, TyB, zaB, hat, hc, implies_true, forall_const, Nat.reduceSub, Nat.reduceEqDiff, Nat.reduceAdd, Nat.reduceMul, Nat.reduceLeDiff, Nat.reduceLT, Nat.reduceBEq, reduceCtorEq])
    refine ⟨⟨Int.natCast_nonneg i, by omega⟩, ?_⟩
    refine zan (hp _ (List.getElem_mem hi)) ?_
    repeat (first | with_reducible refine zaa _ _ ?_ | with_reducible refine And.imp_right (zaa _ _) ?_ | with_reducible refine And.imp_right (And.imp_right (zaa _ _)) ?_ | with_reducible refine And.imp_right (And.imp_right (And.imp_right (zaa _ _))) ?_ | rw [zae] | simp only [pkS, TyB,  implies_true, forall_const, Nat.reduceSub, Nat.reduceEqDiff, Nat.reduceAdd, Nat.reduceMul, Nat.reduceLeDiff, Nat.reduceLT, Nat.reduceBEq, reduceCtorEq])
    refine zad (fun hb => ?_) (fun hb => ?_)
    · rw [if_pos hb] at hF
      repeat (first | with_reducible refine zaa _ _ ?_ | with_reducible refine And.imp_right (zaa _ _) ?_ | with_reducible refine And.imp_right (And.imp_right (zaa _ _)) ?_ | with_reducible refine And.imp_right (And.imp_right (And.imp_right (zaa _ _))) ?_ | rw [zae] | simp only [pkS, TyB,  implies_true, forall_const, Nat.reduceSub, Nat.reduceEqDiff, Nat.reduceAdd, Nat.reduceMul, Nat.reduceLeDiff, Nat.reduceLT, Nat.reduceBEq, reduceCtorEq])
      rw [hF]; rfl
    · rw [if_neg (by simp [hb])] at hF
      repeat (first | with_reducible refine zaa _ _ ?_ | with_reducible refine And.imp_right (zaa _ _) ?_ | with_reducible refine And.imp_right (And.imp_right (zaa _ _)) ?_ | with_reducible refine And.imp_right (And.imp_right (And.imp_right (zaa _ _))) ?_ | rw [zae] | simp only [pkS, TyB,  implies_true, forall_const, Nat.reduceSub, Nat.reduceEqDiff, Nat.reduceAdd, Nat.reduceMul, Nat.reduceLeDiff, Nat.reduceLT, Nat.reduceBEq, reduceCtorEq])
      refine hK _ (i + 1) (Gh.fgt ?_) hi (by simp only [List.drop_eq_getElem_cons hi, idxF]; rw [if_neg (by simp [hb])]; rfl) (by omega)
      have hw : IntKind.i64.wrap ((i : Int) + 1) = ((i + 1 : Nat) : Int) := by rw [wrap64 (by omega) (by omega)]; rfl
      simp only [hw, zaQ, zaR, za6]
  · have hi : i = l.length := by
      have : ¬ (i : Int) < l.length := by simpa using hge
      omega
    rw [hi, List.drop_length, idxF] at hF
    repeat (first | with_reducible refine zaa _ _ ?_ | with_reducible refine And.imp_right (zaa _ _) ?_ | with_reducible refine And.imp_right (And.imp_right (zaa _ _)) ?_ | with_reducible refine And.imp_right (And.imp_right (And.imp_right (zaa _ _))) ?_ | rw [zae] | simp only [pkS, TyB,  implies_true, forall_const, Nat.reduceSub, Nat.reduceEqDiff, Nat.reduceAdd, Nat.reduceMul, Nat.reduceLeDiff, Nat.reduceLT, Nat.reduceBEq, reduceCtorEq])
    rw [hF]; rfl
theorem index_lock (l : List Lk) (hl : l.length < 2 ^ 62) (p : Lk → Bool) (f : Nat) (caps : List C) (hc : lendAs [] (caps.map AV.one) = some (caps.map fun c => .f (.one c)))
    (hp : ∀ x ∈ l, CallOK Try.prog f (.f (lockAV x) :: caps.map fun c => .f (.one c)) (fun r o => r = [rb (p x)] ∧ o = [])) :
    CallOK Try.prog 81 [.f (al l.length (locksE l)), .f (.one (.clos f caps))] (fun r o => r = [ri (idxF p l 0)] ∧ o = []) := by
  refine zaq zaG mixed (T := Ty) (n := 19) Try.func81 (c := Try.f81.body.getD .skip) rfl Try.results81 Try.ntmps81 Try.call81 ?_
  simp only [Try.f81, Option.getD]
  repeat (first | with_reducible refine zaa _ _ ?_ | with_reducible refine And.imp_right (zaa _ _) ?_ | with_reducible refine And.imp_right (And.imp_right (zaa _ _)) ?_ | with_reducible refine And.imp_right (And.imp_right (And.imp_right (zaa _ _))) ?_ | rw [zae] | simp only [pkS, TyB,  implies_true, forall_const, Nat.reduceSub, Nat.reduceEqDiff, Nat.reduceAdd, Nat.reduceMul, Nat.reduceLeDiff, Nat.reduceLT, Nat.reduceBEq, reduceCtorEq])
  refine zaH (τ := Nat) (fun i => ⟨[al l.length (locksE l), .one (.clos f caps), dd, dd, ai 0, dd, al l.length (locksE l), ai l.length, ai i, dd, dd, dd, dd, dd, dd, dd, dd, dd, dd], []⟩) (fun i => i ≤ l.length) (fun i => idxF p (l.drop i) i) (fun i => l.length - i) 0 (Gh.fgt ?_) (Nat.zero_le _) ?_
  · simp only [zaQ, zaR, za6, Int.natCast_zero]
  intro i hi0 hF K hK
  repeat (first | with_reducible refine zaa _ _ ?_ | with_reducible refine And.imp_right (zaa _ _) ?_ | with_reducible refine And.imp_right (And.imp_right (zaa _ _)) ?_ | with_reducible refine And.imp_right (And.imp_right (And.imp_right (zaa _ _))) ?_ | rw [zae] | simp only [pkS, TyB,  implies_true, forall_const, Nat.reduceSub, Nat.reduceEqDiff, Nat.reduceAdd, Nat.reduceMul, Nat.reduceLeDiff, Nat.reduceLT, Nat.reduceBEq, reduceCtorEq])
  rw [zcb]
  refine ⟨trivial, fun hlt => ?_, fun hge => ?_⟩
  · have hi : i < l.length := by simpa using hlt
    rw [List.drop_eq_getElem_cons hi, idxF] at hF
    have hat := zaV hi
    simp only [List.cons_append, List.nil_append] at hat
    repeat (first | with_reducible refine zaa _ _ ?_ | with_reducible refine And.imp_right (zaa _ _) ?_ | with_reducible refine And.imp_right (And.imp_right (zaa _ _)) ?_ | with_reducible refine And.imp_right (And.imp_right (And.imp_right (zaa _ _))) ?_ | rw [zae] | simp only [pkS, TyB, zax, hat, hc, implies_true, forall_const, Nat.reduceSub, Nat.reduceEqDiff, Nat.reduceAdd, Nat.reduceMul, Nat.reduceLeDiff, Nat.reduceLT, Nat.reduceBEq, reduceCtorEq])
    refine ⟨⟨Int.natCast_nonneg i, by omega⟩, ?_⟩
    refine zan (hp _ (List.getElem_mem hi)) ?_
    repeat (first | with_reducible refine zaa _ _ ?_ | with_reducible refine And.imp_right (zaa _ _) ?_ | with_reducible refine And.imp_right (And.imp_right (zaa _ _)) ?_ | with_reducible refine And.imp_right (And.imp_right (And.imp_right (zaa _ _))) ?_ | rw [zae] | simp only [pkS, TyB,  implies_true, forall_const, Nat.reduceSub, Nat.reduceEqDiff, Nat.reduceAdd, Nat.reduceMul, Nat.reduceLeDiff, Nat.reduceLT, Nat.reduceBEq, reduceCtorEq])
    refine zad (fun hb => ?_) (fun hb => ?_)
    · rw [if_pos hb] at hF
      repeat (first | with_reducible refine zaa _ _ ?_ | with_reducible refine And.imp_right (zaa _ _) ?_ | with_reducible refine And.imp_right (And.imp_right (zaa _ _)) ?_ | with_reducible refine And.imp_right (And.imp_right (And.imp_right (zaa _ _))) ?_ | rw [zae] | simp only [pkS, TyB,  implies_true, forall_const, Nat.reduceSub, Nat.reduceEqDiff, Nat.reduceAdd, Nat.reduceMul, Nat.reduceLeDiff, Nat.reduceLT, Nat.reduceBEq, reduceCtorEq])
      rw [hF]; rfl
    · rw [if_neg (by simp [hb])] at hF
      repeat (first | with_reducible refine zaa _ _ ?_ | with_reducible refine And.imp_right (zaa _ _) ?_ | with_reducible refine And.imp_right (And.imp_right (zaa _ _)) ?_ | with_reducible refine And.imp_right (And.imp_right (And.imp_right (zaa _ _))) ?_ | rw [zae] | simp only [pkS, TyB,  implies_true, forall_const, Nat.reduceSub, Nat.reduceEqDiff, Nat.reduceAdd, Nat.reduceMul, Nat.reduceLeDiff, Nat.reduceLT, Nat.reduceBEq, reduceCtorEq])
      refine hK _ (i + 1) (Gh.fgt ?_) hi (by simp only [List.drop_eq_getElem_cons hi, idxF]; rw [if_neg (by simp [hb])]; rfl) (by omega)
      have hw : IntKind.i64.wrap ((i : Int) + 1) = ((i + 1 : Nat) : Int) := by rw [wrap64 (by omega) (by omega)]; rfl
      simp only [hw, zaQ, zaR, za6]
  · have hi : i = l.length := by
      have : ¬ (i : Int) < l.length := by simpa using hge
      omega
    rw [hi, List.drop_length, idxF] at hF
    repeat (first | with_reducible refine zaa _ _ ?_ | with_reducible refine And.imp_right (zaa _ _) ?_ | with_reducible refine And.imp_right (And.imp_right (zaa _ _)) ?_ | with_reducible refine And.imp_right (And.imp_right (And.imp_right (zaa _ _))) ?_ | rw [zae] | simp only [pkS, TyB,  implies_true, forall_const, Nat.reduceSub, Nat.reduceEqDiff, Nat.reduceAdd, Nat.reduceMul, Nat.reduceLeDiff, Nat.reduceLT, Nat.reduceBEq, reduceCtorEq])
    rw [hF]; rfl
theorem zfS (l : List Sess) (hl : l.length < 2 ^ 62) (p : Sess → Bool) (f : Nat) (caps : List C) (hc : lendAs [] (caps.map AV.one) = some (caps.map fun c => .f (.one c))) (hc2 : lendC.lendCs [] caps = some caps)
    (hp : ∀ x ∈ l, CallOK Try.prog f (.f (sessAV x) :: caps.map fun c => .f (.one c)) (fun r o => r = [rb (p x)] ∧ o = [])) :
    CallOK Try.prog 78 [.f (al l.length (sessE l)), .f (.one (.clos f caps))] (fun r o => r = [rb (l.any p)] ∧ o = []) := by
  refine zaq zaG mixed (T := Ty) (n := 9) Try.func78 (c := Try.f78.body.getD .skip) rfl Try.results78 Try.ntmps78 Try.call78 ?_
  simp only [Try.f78, Option.getD]
  repeat (first | with_reducible refine zaa _ _ ?_ | with_reducible refine And.imp_right (zaa _ _) ?_ | with_reducible refine And.imp_right (And.imp_right (zaa _ _)) ?_ | with_reducible refine And.imp_right (And.imp_right (And.imp_right (zaa _ _))) ?_ | rw [zae] | simp only [pkS, TyB, hc2, implies_true, forall_const, Nat.reduceSub, Nat.reduceEqDiff, Nat.reduceAdd, Nat.reduceMul, Nat.reduceLeDiff, Nat.reduceLT, Nat.reduceBEq, reduceCtorEq])
  refine zan (zfl l hl p f caps hc hp) ?_
  repeat (first | with_reducible refine zaa _ _ ?_ | with_reducible refine And.imp_right (zaa _ _) ?_ | with_reducible refine And.imp_right (And.imp_right (zaa _ _)) ?_ | with_reducible refine And.imp_right (And.imp_right (And.imp_right (zaa _ _))) ?_ | rw [zae] | simp only [pkS, TyB,  implies_true, forall_const, Nat.reduceSub, Nat.reduceEqDiff, Nat.reduceAdd, Nat.reduceMul, Nat.reduceLeDiff, Nat.reduceLT, Nat.reduceBEq, reduceCtorEq])
  rw [zdG]
theorem zfT (l : List Lk) (hl : l.length < 2 ^ 62) (p : Lk → Bool) (f : Nat) (caps : List C) (hc : lendAs [] (caps.map AV.one) = some (caps.map fun c => .f (.one c))) (hc2 : lendC.lendCs [] caps = some caps)
    (hp : ∀ x ∈ l, CallOK Try.prog f (.f (lockAV x) :: caps.map fun c => .f (.one c)) (fun r o => r = [rb (p x)] ∧ o = [])) :
    CallOK Try.prog 57 [.f (al l.length (locksE l)), .f (.one (.clos f caps))] (fun r o => r = [rb (l.any p)] ∧ o = []) := by
  refine zaq zaG mixed (T := Ty) (n := 9) Try.func57 (c := Try.f57.body.getD .skip) rfl Try.results57 Try.ntmps57 Try.call57 ?_
  simp only [Try.f57, Option.getD]
  repeat (first | with_reducible refine zaa _ _ ?_ | with_reducible refine And.imp_right (zaa _ _) ?_ | with_reducible refine And.imp_right (And.imp_right (zaa _ _)) ?_ | with_reducible refine And.imp_right (And.imp_right (And.imp_right (zaa _ _))) ?_ | rw [zae] | simp only [pkS, TyB, hc2, implies_true, forall_const, Nat.reduceSub, Nat.reduceEqDiff, Nat.reduceAdd, Nat.reduceMul, Nat.reduceLeDiff, Nat.reduceLT, Nat.reduceBEq, reduceCtorEq])
  refine zan (index_lock l hl p f caps hc hp) ?_
  repeat (first | with_reducible refine zaa _ _ ?_ | with_reducible refine And.imp_right (zaa _ _) ?_ | with_reducible refine And.imp_right (And.imp_right (zaa _ _)) ?_ | with_reducible refine And.imp_right (And.imp_right (And.imp_right (zaa _ _))) ?_ | rw [zae] | simp only [pkS, TyB,  implies_true, forall_const, Nat.reduceSub, Nat.reduceEqDiff, Nat.reduceAdd, Nat.reduceMul, Nat.reduceLeDiff, Nat.reduceLT, Nat.reduceBEq, reduceCtorEq])
  rw [zdG]
theorem zcf (n : Nat) (L : List D) (hL : L.length = n) (hn : n < 2 ^ 40) : CallOK Try.prog 34 [.f (al n L)] (fun r o => r = [.one (.own 1 n L false)] ∧ o = []) := by
  refine CallOK.nil ?_
  refine zaq zaG mixed (T := Ty) (n := 8) Try.func34 (c := Try.f34.body.getD .skip) rfl Try.results34 Try.ntmps34 Try.call34 ?_
  simp only [Try.f34, Option.getD]
  rcases Nat.eq_zero_or_pos n with rfl | hp
  · obtain rfl : L = [] := List.eq_nil_of_length_eq_zero (by omega)
    repeat (first | with_reducible refine zaa _ _ ?_ | with_reducible refine And.imp_right (zaa _ _) ?_ | with_reducible refine And.imp_right (And.imp_right (zaa _ _)) ?_ | with_reducible refine And.imp_right (And.imp_right (And.imp_right (zaa _ _))) ?_ | rw [zae] | simp only [pkS, TyB, Option.map_some, za7, zc9, Nat.mul_one, implies_true, forall_const, Nat.reduceSub, Nat.reduceEqDiff, Nat.reduceAdd, Nat.reduceMul, Nat.reduceLeDiff, Nat.reduceLT, Nat.reduceBEq, reduceCtorEq])
    refine ⟨?_, ?_, ?_⟩
    · repeat (first | with_reducible refine zaa _ _ ?_ | with_reducible refine And.imp_right (zaa _ _) ?_ | with_reducible refine And.imp_right (And.imp_right (zaa _ _)) ?_ | with_reducible refine And.imp_right (And.imp_right (And.imp_right (zaa _ _))) ?_ | rw [zae] | simp only [pkS, TyB, List.map_nil, implies_true, forall_const, Nat.reduceSub, Nat.reduceEqDiff, Nat.reduceAdd, Nat.reduceMul, Nat.reduceLeDiff, Nat.reduceLT, Nat.reduceBEq, reduceCtorEq])
      simp [rfs1, roLe]
    · simp
    · repeat (first | with_reducible refine zaa _ _ ?_ | with_reducible refine And.imp_right (zaa _ _) ?_ | with_reducible refine And.imp_right (And.imp_right (zaa _ _)) ?_ | with_reducible refine And.imp_right (And.imp_right (And.imp_right (zaa _ _))) ?_ | rw [zae] | simp only [pkS, TyB, List.map_nil, implies_true, forall_const, Nat.reduceSub, Nat.reduceEqDiff, Nat.reduceAdd, Nat.reduceMul, Nat.reduceLeDiff, Nat.reduceLT, Nat.reduceBEq, reduceCtorEq])
      simp [rfs1, roLe]
  · have h0 : n ≠ 0 := by omega
    have h1 : L ≠ [] := fun h => by rw [h] at hL; simp at hL; omega
    repeat (first | with_reducible refine zaa _ _ ?_ | with_reducible refine And.imp_right (zaa _ _) ?_ | with_reducible refine And.imp_right (And.imp_right (zaa _ _)) ?_ | with_reducible refine And.imp_right (And.imp_right (And.imp_right (zaa _ _))) ?_ | rw [zae] | simp only [pkS, TyB, Option.map_some, za7, zc9, h0, h1, Nat.mul_one, implies_true, forall_const, Nat.reduceSub, Nat.reduceEqDiff, Nat.reduceAdd, Nat.reduceMul, Nat.reduceLeDiff, Nat.reduceLT, Nat.reduceBEq, reduceCtorEq])
    refine ⟨trivial, fun hb => by simp at hb, fun hb => ?_⟩
    repeat (first | with_reducible refine zaa _ _ ?_ | with_reducible refine And.imp_right (zaa _ _) ?_ | with_reducible refine And.imp_right (And.imp_right (zaa _ _)) ?_ | with_reducible refine And.imp_right (And.imp_right (And.imp_right (zaa _ _))) ?_ | rw [zae] | simp only [pkS, TyB, Option.map_some, za7, zc9, h0, h1, List.map_nil, List.nil_append, zaC, Nat.mul_one, implies_true, forall_const, Nat.reduceSub, Nat.reduceEqDiff, Nat.reduceAdd, Nat.reduceMul, Nat.reduceLeDiff, Nat.reduceLT, Nat.reduceBEq, reduceCtorEq])
    refine ⟨by simp, ⟨hL, by omega⟩, ?_⟩
    simp [rfs1, roLe]
theorem zdR (n : Nat) (L : List D) (hL : L.length = n * 3) (hn : n < 2 ^ 40) : CallOK Try.prog 32 [.f (al n L)] (fun r o => r = [.one (.own 3 n L false)] ∧ o = []) := by
  refine CallOK.nil ?_
  refine zaq zaG mixed (T := Ty) (n := 8) Try.func32 (c := Try.f32.body.getD .skip) rfl Try.results32 Try.ntmps32 Try.call32 ?_
  simp only [Try.f32, Option.getD]
  rcases Nat.eq_zero_or_pos n with rfl | hp
  · obtain rfl : L = [] := List.eq_nil_of_length_eq_zero (by omega)
    repeat (first | with_reducible refine zaa _ _ ?_ | with_reducible refine And.imp_right (zaa _ _) ?_ | with_reducible refine And.imp_right (And.imp_right (zaa _ _)) ?_ | with_reducible refine And.imp_right (And.imp_right (And.imp_right (zaa _ _))) ?_ | rw [zae] | simp only [pkS, TyB, Option.map_some, za7, zc9, Nat.mul_one, implies_true, forall_const, Nat.reduceSub, Nat.reduceEqDiff, Nat.reduceAdd, Nat.reduceMul, Nat.reduceLeDiff, Nat.reduceLT, Nat.reduceBEq, reduceCtorEq])
    refine ⟨?_, ?_, ?_⟩
    · repeat (first | with_reducible refine zaa _ _ ?_ | with_reducible refine And.imp_right (zaa _ _) ?_ | with_reducible refine And.imp_right (And.imp_right (zaa _ _)) ?_ | with_reducible refine And.imp_right (And.imp_right (And.imp_right (zaa _ _))) ?_ | rw [zae] | simp only [pkS, TyB, List.map_nil, implies_true, forall_const, Nat.reduceSub, Nat.reduceEqDiff, Nat.reduceAdd, Nat.reduceMul, Nat.reduceLeDiff, Nat.reduceLT, Nat.reduceBEq, reduceCtorEq])
      simp [rfs1, roLe]
    · simp
    · repeat (first | with_reducible refine zaa _ _ ?_ | with_reducible refine And.imp_right (zaa _ _) ?_ | with_reducible refine And.imp_right (And.imp_right (zaa _ _)) ?_ | with_reducible refine And.imp_right (And.imp_right (And.imp_right (zaa _ _))) ?_ | rw [zae] | simp only [pkS, TyB, List.map_nil, implies_true, forall_const, Nat.reduceSub, Nat.reduceEqDiff, Nat.reduceAdd, Nat.reduceMul, Nat.reduceLeDiff, Nat.reduceLT, Nat.reduceBEq, reduceCtorEq])
      simp [rfs1, roLe]
  · have h0 : n ≠ 0 := by omega
    have h1 : L ≠ [] := fun h => by rw [h] at hL; simp at hL; omega
    repeat (first | with_reducible refine zaa _ _ ?_ | with_reducible refine And.imp_right (zaa _ _) ?_ | with_reducible refine And.imp_right (And.imp_right (zaa _ _)) ?_ | with_reducible refine And.imp_right (And.imp_right (And.imp_right (zaa _ _))) ?_ | rw [zae] | simp only [pkS, TyB, Option.map_some, za7, zc9, h0, h1, Nat.mul_one, implies_true, forall_const, Nat.reduceSub, Nat.reduceEqDiff, Nat.reduceAdd, Nat.reduceMul, Nat.reduceLeDiff, Nat.reduceLT, Nat.reduceBEq, reduceCtorEq])
    refine ⟨trivial, fun hb => by simp at hb, fun hb => ?_⟩
    repeat (first | with_reducible refine zaa _ _ ?_ | with_reducible refine And.imp_right (zaa _ _) ?_ | with_reducible refine And.imp_right (And.imp_right (zaa _ _)) ?_ | with_reducible refine And.imp_right (And.imp_right (And.imp_right (zaa _ _))) ?_ | rw [zae] | simp only [pkS, TyB, Option.map_some, za7, zc9, h0, h1, List.map_nil, List.nil_append, zaC, Nat.mul_one, implies_true, forall_const, Nat.reduceSub, Nat.reduceEqDiff, Nat.reduceAdd, Nat.reduceMul, Nat.reduceLeDiff, Nat.reduceLT, Nat.reduceBEq, reduceCtorEq])
    refine ⟨by simp, ⟨hL, by omega⟩, ?_⟩
    simp [rfs1, roLe]
theorem zfm (n : Nat) (L : List D) (hL : L.length = n * 4) (hn : n < 2 ^ 40) : CallOK Try.prog 33 [.f (al n L)] (fun r o => r = [.one (.own 4 n L false)] ∧ o = []) := by
  refine CallOK.nil ?_
  refine zaq zaG mixed (T := Ty) (n := 8) Try.func33 (c := Try.f33.body.getD .skip) rfl Try.results33 Try.ntmps33 Try.call33 ?_
  simp only [Try.f33, Option.getD]
  rcases Nat.eq_zero_or_pos n with rfl | hp
  · obtain rfl : L = [] := List.eq_nil_of_length_eq_zero (by omega)
    repeat (first | with_reducible refine zaa _ _ ?_ | with_reducible refine And.imp_right (zaa _ _) ?_ | with_reducible refine And.imp_right (And.imp_right (zaa _ _)) ?_ | with_reducible refine And.imp_right (And.imp_right (And.imp_right (zaa _ _))) ?_ | rw [zae] | simp only [pkS, TyB, Option.map_some, za7, zc9, Nat.mul_one, implies_true, forall_const, Nat.reduceSub, Nat.reduceEqDiff, Nat.reduceAdd, Nat.reduceMul, Nat.reduceLeDiff, Nat.reduceLT, Nat.reduceBEq, reduceCtorEq])
    refine ⟨?_, ?_, ?_⟩
    · repeat (first | with_reducible refine zaa _ _ ?_ | with_reducible refine And.imp_right (zaa _ _) ?_ | with_reducible refine And.imp_right (And.imp_right (zaa _ _)) ?_ | with_reducible refine And.imp_right (And.imp_right (And.imp_right (zaa _ _))) ?_ | rw [zae] | simp only [pkS, TyB, List.map_nil, implies_true, forall_const, Nat.reduceSub, Nat.reduceEqDiff, Nat.reduceAdd, Nat.reduceMul, Nat.reduceLeDiff, Nat.reduceLT, Nat.reduceBEq, reduceCtorEq])
      simp [rfs1, roLe]
    · simp
    · repeat (first | with_reducible refine zaa _ _ ?_ | with_reducible refine And.imp_right (zaa _ _) ?_ | with_reducible refine And.imp_right (And.imp_right (zaa _ _)) ?_ | with_reducible refine And.imp_right (And.imp_right (And.imp_right (zaa _ _))) ?_ | rw [zae] | simp only [pkS, TyB, List.map_nil, implies_true, forall_const, Nat.reduceSub, Nat.reduceEqDiff, Nat.reduceAdd, Nat.reduceMul, Nat.reduceLeDiff, Nat.reduceLT, Nat.reduceBEq, reduceCtorEq])
      simp [rfs1, roLe]
  · have h0 : n ≠ 0 := by omega
    have h1 : L ≠ [] := fun h => by rw [h] at hL; simp at hL; omega
    repeat (first | with_reducible refine zaa _ _ ?_ | with_reducible refine And.imp_right (zaa _ _) ?_ | with_reducible refine And.imp_right (And.imp_right (zaa _ _)) ?_ | with_reducible refine And.imp_right (And.imp_right (And.imp_right (zaa _ _))) ?_ | rw [zae] | simp only [pkS, TyB, Option.map_some, za7, zc9, h0, h1, Nat.mul_one, implies_true, forall_const, Nat.reduceSub, Nat.reduceEqDiff, Nat.reduceAdd, Nat.reduceMul, Nat.reduceLeDiff, Nat.reduceLT, Nat.reduceBEq, reduceCtorEq])
    refine ⟨trivial, fun hb => by simp at hb, fun hb => ?_⟩
    repeat (first | with_reducible refine zaa _ _ ?_ | with_reducible refine And.imp_right (zaa _ _) ?_ | with_reducible refine And.imp_right (And.imp_right (zaa _ _)) ?_ | with_reducible refine And.imp_right (And.imp_right (And.imp_right (zaa _ _))) ?_ | rw [zae] | simp only [pkS, TyB, Option.map_some, za7, zc9, h0, h1, List.map_nil, List.nil_append, zaC, Nat.mul_one, implies_true, forall_const, Nat.reduceSub, Nat.reduceEqDiff, Nat.reduceAdd, Nat.reduceMul, Nat.reduceLeDiff, Nat.reduceLT, Nat.reduceBEq, reduceCtorEq])
    refine ⟨by simp, ⟨hL, by omega⟩, ?_⟩
    simp [rfs1, roLe]
theorem zfn (n : Nat) (L : List D) (hL : L.length = n * 6) (hn : n < 2 ^ 40) : CallOK Try.prog 35 [.f (al n L)] (fun r o => r = [.one (.own 6 n L false)] ∧ o = []) := by
  refine CallOK.nil ?_
  refine zaq zaG mixed (T := Ty) (n := 8) Try.func35 (c := Try.f35.body.getD .skip) rfl Try.results35 Try.ntmps35 Try.call35 ?_
  simp only [Try.f35, Option.getD]
  rcases Nat.eq_zero_or_pos n with rfl | hp
  · obtain rfl : L = [] := List.eq_nil_of_length_eq_zero (by omega)
    repeat (first | with_reducible refine zaa _ _ ?_ | with_reducible refine And.imp_right (zaa _ _) ?_ | with_reducible refine And.imp_right (And.imp_right (zaa _ _)) ?_ | with_reducible refine And.imp_right (And.imp_right (And.imp_right (zaa _ _))) ?_ | rw [zae] | simp only [pkS, TyB, Option.map_some, za7, zc9, Nat.mul_one, implies_true, forall_const, Nat.reduceSub, Nat.reduceEqDiff, Nat.reduceAdd, Nat.reduceMul, Nat.reduceLeDiff, Nat.reduceLT, Nat.reduceBEq, reduceCtorEq])
    refine ⟨?_, ?_, ?_⟩
    · repeat (first | with_reducible refine zaa _ _ ?_ | with_reducible refine And.imp_right (zaa _ _) ?_ | with_reducible refine And.imp_right (And.imp_right (zaa _ _)) ?_ | with_reducible refine And.imp_right (And.imp_right (And.imp_right (zaa _ _))) ?_ | rw [zae] | simp only [pkS, TyB, List.map_nil, implies_true, forall_const, Nat.reduceSub, Nat.reduceEqDiff, Nat.reduceAdd, Nat.reduceMul, Nat.reduceLeDiff, Nat.reduceLT, Nat.reduceBEq, reduceCtorEq])
      simp [rfs1, roLe]
    · simp
    · repeat (first | with_reducible refine zaa _ _ ?_ | with_reducible refine And.imp_right (zaa _ _) ?_ | with_reducible refine And.imp_right (And.imp_right (zaa _ _)) ?_ | with_reducible refine And.imp_right (And.imp_right (And.imp_right (zaa _ _))) ?_ | rw [zae] | simp only [pkS, TyB, List.map_nil, implies_true, forall_const, Nat.reduceSub, Nat.reduceEqDiff, Nat.reduceAdd, Nat.reduceMul, Nat.reduceLeDiff, Nat.reduceLT, Nat.reduceBEq, reduceCtorEq])
      simp [rfs1, roLe]
  · have h0 : n ≠ 0 := by omega
    have h1 : L ≠ [] := fun h => by rw [h] at hL; simp at hL; omega
    repeat (first | with_reducible refine zaa _ _ ?_ | with_reducible refine And.imp_right (zaa _ _) ?_ | with_reducible refine And.imp_right (And.imp_right (zaa _ _)) ?_ | with_reducible refine And.imp_right (And.imp_right (And.imp_right (zaa _ _))) ?_ | rw [zae] | simp only [pkS, TyB, Option.map_some, za7, zc9, h0, h1, Nat.mul_one, implies_true, forall_const, Nat.reduceSub, Nat.reduceEqDiff, Nat.reduceAdd, Nat.reduceMul, Nat.reduceLeDiff, Nat.reduceLT, Nat.reduceBEq, reduceCtorEq])
    refine ⟨trivial, fun hb => by simp at hb, fun hb => ?_⟩
    repeat (first | with_reducible refine zaa _ _ ?_ | with_reducible refine And.imp_right (zaa _ _) ?_ | with_reducible refine And.imp_right (And.imp_right (zaa _ _)) ?_ | with_reducible refine And.imp_right (And.imp_right (And.imp_right (zaa _ _))) ?_ | rw [zae] | simp only [pkS, TyB, Option.map_some, za7, zc9, h0, h1, List.map_nil, List.nil_append, zaC, Nat.mul_one, implies_true, forall_const, Nat.reduceSub, Nat.reduceEqDiff, Nat.reduceAdd, Nat.reduceMul, Nat.reduceLeDiff, Nat.reduceLT, Nat.reduceBEq, reduceCtorEq])
    refine ⟨by simp, ⟨hL, by omega⟩, ?_⟩
    simp [rfs1, roLe]
theorem zcn (n : Nat) (L : List D) (hL : L.length = n * 2) (hn : n < 2 ^ 40) : CallOK Try.prog 36 [.f (al n L)] (fun r o => r = [.one (.own 2 n L false)] ∧ o = []) := by
  refine CallOK.nil ?_
  refine zaq zaG mixed (T := Ty) (n := 8) Try.func36 (c := Try.f36.body.getD .skip) rfl Try.results36 Try.ntmps36 Try.call36 ?_
  simp only [Try.f36, Option.getD]
  rcases Nat.eq_zero_or_pos n with rfl | hp
  · obtain rfl : L = [] := List.eq_nil_of_length_eq_zero (by omega)
    repeat (first | with_reducible refine zaa _ _ ?_ | with_reducible refine And.imp_right (zaa _ _) ?_ | with_reducible refine And.imp_right (And.imp_right (zaa _ _)) ?_ | with_reducible refine And.imp_right (And.imp_right (And.imp_right (zaa _ _))) ?_ | rw [zae] | simp only [pkS, TyB, Option.map_some, za7, zc9, Nat.mul_one, implies_true, forall_const, Nat.reduceSub, Nat.reduceEqDiff, Nat.reduceAdd, Nat.reduceMul, Nat.reduceLeDiff, Nat.reduceLT, Nat.reduceBEq, reduceCtorEq])
    refine ⟨?_, ?_, ?_⟩
    · repeat (first | with_reducible refine zaa _ _ ?_ | with_reducible refine And.imp_right (zaa _ _) ?_ | with_reducible refine And.imp_right (And.imp_right (zaa _ _)) ?_ | with_reducible refine And.imp_right (And.imp_right (And.imp_right (zaa _ _))) ?_ | rw [zae] | simp only [pkS, TyB, List.map_nil, implies_true, forall_const, Nat.reduceSub, Nat.reduceEqDiff, Nat.reduceAdd, Nat.reduceMul, Nat.reduceLeDiff, Nat.reduceLT, Nat.reduceBEq, reduceCtorEq])
      simp [rfs1, roLe]
    · simp
    · repeat (first | with_reducible refine zaa _ _ ?_ | with_reducible refine And.imp_right (zaa _ _) ?_ | with_reducible refine And.imp_right (And.imp_right (zaa _ _)) ?_ | with_reducible refine And.imp_right (And.imp_right (And.imp_right (zaa _ _))) ?_ | rw [zae] | simp only [pkS, TyB, List.map_nil, implies_true, forall_const, Nat.reduceSub, Nat.reduceEqDiff, Nat.reduceAdd, Nat.reduceMul, Nat.reduceLeDiff, Nat.reduceLT, Nat.reduceBEq, reduceCtorEq])
      simp [rfs1, roLe]
  · have h0 : n ≠ 0 := by omega
    have h1 : L ≠ [] := fun h => by rw [h] at hL; simp at hL; omega
    repeat (first | with_reducible refine zaa _ _ ?_ | with_reducible refine And.imp_right (zaa _ _) ?_ | with_reducible refine And.imp_right (And.imp_right (zaa _ _)) ?_ | with_reducible refine And.imp_right (And.imp_right (And.imp_right (zaa _ _))) ?_ | rw [zae] | simp only [pkS, TyB, Option.map_some, za7, zc9, h0, h1, Nat.mul_one, implies_true, forall_const, Nat.reduceSub, Nat.reduceEqDiff, Nat.reduceAdd, Nat.reduceMul, Nat.reduceLeDiff, Nat.reduceLT, Nat.reduceBEq, reduceCtorEq])
    refine ⟨trivial, fun hb => by simp at hb, fun hb => ?_⟩
    repeat (first | with_reducible refine zaa _ _ ?_ | with_reducible refine And.imp_right (zaa _ _) ?_ | with_reducible refine And.imp_right (And.imp_right (zaa _ _)) ?_ | with_reducible refine And.imp_right (And.imp_right (And.imp_right (zaa _ _))) ?_ | rw [zae] | simp only [pkS, TyB, Option.map_some, za7, zc9, h0, h1, List.map_nil, List.nil_append, zaC, Nat.mul_one, implies_true, forall_const, Nat.reduceSub, Nat.reduceEqDiff, Nat.reduceAdd, Nat.reduceMul, Nat.reduceLeDiff, Nat.reduceLT, Nat.reduceBEq, reduceCtorEq])
    refine ⟨by simp, ⟨hL, by omega⟩, ?_⟩
    simp [rfs1, roLe]
set_option maxHeartbeats 1000000 in
theorem zgS (l : List Sess) (hl : l.length < 2 ^ 62) (t : Int) (c : Sess → Int) (f : Nat) (m : Nat) (hm : m ≤ l.length) (h1 : ∀ j (hj : j < l.length), j < m → c l[j] < 0) (h2 : ∀ j (hj : j < l.length), m ≤ j → 0 ≤ c l[j])
    (hp : ∀ x ∈ l, CallOK Try.prog f [.f (sessAV x), .f (ai t)] (fun r o => r = [ri (c x)] ∧ o = [])) :
    CallOK Try.prog 87 [.f (al l.length (sessE l)), .f (ai t), .f (.one (.clos f []))] (fun r o => r = [ri m, rb ((l[m]?.map fun x => c x == 0).getD false)] ∧ o = []) := by
  refine zaq zaG mixed (T := Ty) (n := 49) Try.func87 (c := Try.f87.body.getD .skip) rfl Try.results87 Try.ntmps87 Try.call87 ?_
  simp only [Try.f87, Option.getD]
  repeat (first | with_reducible refine zaa _ _ ?_ | with_reducible refine And.imp_right (zaa _ _) ?_ | with_reducible refine And.imp_right (And.imp_right (zaa _ _)) ?_ | with_reducible refine And.imp_right (And.imp_right (And.imp_right (zaa _ _))) ?_ | rw [zae] | simp only [pkS, TyB,  implies_true, forall_const, Nat.reduceSub, Nat.reduceEqDiff, Nat.reduceAdd, Nat.reduceMul, Nat.reduceLeDiff, Nat.reduceLT, Nat.reduceBEq, reduceCtorEq])
  refine zaH (τ := Nat × Nat) (fun q => ⟨[al l.length (sessE l), ai t, .one (.clos f []), dd, dd, dd, dd, dd, ai l.length, ai q.1, ai q.2, dd, dd, dd, dd, dd, dd, dd, dd, dd, dd, dd, dd, dd, dd, dd, dd, dd, dd, dd, dd, dd, dd, dd, dd, dd, dd, dd, dd, dd, dd, dd, dd, dd, dd, dd, dd, dd, dd], []⟩) (fun q => q.1 ≤ m ∧ m ≤ q.2 ∧ q.2 ≤ l.length) (fun _ => ()) (fun q => q.2 - q.1) (0, l.length) (Gh.fgt ?_) ⟨Nat.zero_le _, hm, Nat.le_refl _⟩ ?_
  · simp only [zaQ, zaR, za6, Int.natCast_zero]
  intro ⟨lo, hi⟩ ⟨b1, b2, b3⟩ hF K hK
  simp only at b1 b2 b3 hF hK ⊢
  repeat (first | with_reducible refine zaa _ _ ?_ | with_reducible refine And.imp_right (zaa _ _) ?_ | with_reducible refine And.imp_right (And.imp_right (zaa _ _)) ?_ | with_reducible refine And.imp_right (And.imp_right (And.imp_right (zaa _ _))) ?_ | rw [zae] | simp only [pkS, TyB,  implies_true, forall_const, Nat.reduceSub, Nat.reduceEqDiff, Nat.reduceAdd, Nat.reduceMul, Nat.reduceLeDiff, Nat.reduceLT, Nat.reduceBEq, reduceCtorEq])
  refine zad (fun hlt => ?_) (fun hge => ?_)
  · have hlt : lo < hi := by simpa using hlt
    obtain ⟨q, hq⟩ : ∃ q : Nat, q = (lo + hi) / 2 := ⟨_, rfl⟩
    have hw1 : IntKind.i64.wrap ((lo : Int) + hi) = ((lo + hi : Nat) : Int) := by rw [wrap64 (by omega) (by omega)]; rfl
    have hw2 : IntKind.u64.wrap ((lo + hi : Nat) : Int) = ((lo + hi : Nat) : Int) := zfR (by omega)
    have hw3 : IntKind.i64.wrap (((lo + hi : Nat) : Int).fdiv (2 ^ (min (Int.toNat 1) IntKind.u64.bits))) = (q : Int) := by
      rw [show (2 : Int) ^ (min (Int.toNat 1) IntKind.u64.bits) = 2 by decide, hq, show (((lo + hi : Nat) : Int)).fdiv 2 = (((lo + hi) / 2 : Nat) : Int) by rw [Int.fdiv_eq_ediv_of_nonneg _ (by decide)]; rfl]
      exact wrap64 (by omega) (by omega)
    have hqh : q < hi := by omega
    have hql : q < l.length := by omega
    have hat := zbo hql
    simp only [List.cons_append, List.nil_append] at hat
    have hcp := hp _ (List.getElem_mem hql)
    have hw4 : IntKind.i64.wrap ((q : Int) + 1) = ((q + 1 : Nat) : Int) := by rw [wrap64 (by omega) (by omega)]; rfl
    have h10 : ∀ (a b : Option Value), (if (1 : Int) < 0 then a else b) = b := fun a b => if_neg (by decide)
    clear hlt
    repeat' (first | with_reducible refine zaa _ _ ?_ | rw [zae] | simp only [pkS, TyB, h10, hw1, hw2, hw3, zaB, hat, Nat.mul_one, implies_true, forall_const, Nat.reduceSub, Nat.reduceEqDiff, Nat.reduceAdd, Nat.reduceMul, Nat.reduceLeDiff, Nat.reduceLT, Nat.reduceBEq, reduceCtorEq] | ((try refine zak ?_); apply zan; (solve | exact (hcp) | (refine CallOK.le (hcp) ?_; simp [argsLe, aLe, csLe, cLe]))) | (apply zaj; (focus (intro _; (solve | exact (hcp) | (refine CallOK.le (hcp) ?_; simp [argsLe, aLe, csLe, cLe])))); (focus rfl)) | refine zab ?_ | refine zad (fun hb => ?_) (fun hb => ?_) | (refine And.intro ?_ ?_; focus ((try with_reducible refine zal ?_); first | (with_reducible rfl) | ((with_reducible first | refine zam ?_ | refine zaf ?_ | refine zac ?_); kernel_rfl) | (intros; omega) | (intro q p; rw [q, p]; rfl) | (intro q; rw [q]; rfl) | (intro q; simp only [Bool.and_eq_true, decide_eq_true_eq, beq_iff_eq] at q; omega) | (intros; simp_all; done) | (intros; simp [List.range, List.range.loop]; done) | (intros; simp_all [List.range, List.range.loop]; done))) | refine And.intro (fun hg => ?_) (fun hg => ?_) | (with_reducible refine zac ?_; kernel_rfl) | fail)
    · have hqm : q < m := by
        rcases Nat.lt_or_ge q m with h | h
        · exact h
        · have := h2 q hql h
          have hb' : c l[q] < 0 := by simpa using hb
          omega
      refine hK _ (q + 1, hi) (Gh.fgt ?_) ⟨by simp only; omega, b2, b3⟩ trivial (by simp only; omega)
      simp only [hw4, zaQ, zaR, za6]
    · have hqm : m ≤ q := by
        rcases Nat.lt_or_ge q m with h | h
        · have := h1 q hql h
          have hb' : ¬ c l[q] < 0 := by simpa using hb
          omega
        · exact h
      refine hK _ (lo, q) (Gh.fgt ?_) ⟨b1, hqm, by simp only; omega⟩ trivial (by simp only; omega)
      simp only [zaQ, zaR, za6]
  · have he : lo = m := by
      have : ¬ (lo : Int) < hi := by simpa using hge
      omega
    subst he
    by_cases hlt : lo < l.length
    · have hat := zbo hlt
      simp only [List.cons_append, List.nil_append] at hat
      have hcp := hp _ (List.getElem_mem hlt)
      have hd : decide ((lo : Int) < l.length) = true := by simpa using hlt
      repeat' (first | with_reducible refine zaa _ _ ?_ | rw [zae] | simp only [pkS, TyB, hd, zaB, hat, Nat.mul_one, implies_true, forall_const, Nat.reduceSub, Nat.reduceEqDiff, Nat.reduceAdd, Nat.reduceMul, Nat.reduceLeDiff, Nat.reduceLT, Nat.reduceBEq, reduceCtorEq] | ((try refine zak ?_); apply zan; (solve | exact (hcp) | (refine CallOK.le (hcp) ?_; simp [argsLe, aLe, csLe, cLe]))) | (apply zaj; (focus (intro _; (solve | exact (hcp) | (refine CallOK.le (hcp) ?_; simp [argsLe, aLe, csLe, cLe])))); (focus rfl)) | refine zab ?_ | refine zad (fun hb => ?_) (fun hb => ?_) | (refine And.intro ?_ ?_; focus ((try with_reducible refine zal ?_); first | (with_reducible rfl) | ((with_reducible first | refine zam ?_ | refine zaf ?_ | refine zac ?_); kernel_rfl) | (intros; omega) | (intro q p; rw [q, p]; rfl) | (intro q; rw [q]; rfl) | (intro q; simp only [Bool.and_eq_true, decide_eq_true_eq, beq_iff_eq] at q; omega) | (intros; simp_all; done) | (intros; simp [List.range, List.range.loop]; done) | (intros; simp_all [List.range, List.range.loop]; done))) | refine And.intro (fun hg => ?_) (fun hg => ?_) | (with_reducible refine zac ?_; kernel_rfl) | fail)
      rw [List.getElem?_eq_getElem hlt]; rfl
    · have hd : decide ((lo : Int) < l.length) = false := by simp; omega
      have hn : l[lo]? = none := List.getElem?_eq_none (by omega)
      repeat' (first | with_reducible refine zaa _ _ ?_ | rw [zae] | simp only [pkS, TyB, hd, zaB, Nat.mul_one, hn, bad_x, Option.map_none, implies_true, forall_const, Nat.reduceSub, Nat.reduceEqDiff, Nat.reduceAdd, Nat.reduceMul, Nat.reduceLeDiff, Nat.reduceLT, Nat.reduceBEq, reduceCtorEq] | refine zab ?_ | refine zad (fun hb => ?_) (fun hb => ?_) | (refine And.intro ?_ ?_; focus ((try with_reducible refine zal ?_); first | (with_reducible rfl) | ((with_reducible first | refine zam ?_ | refine zaf ?_ | refine zac ?_); kernel_rfl) | (intros; omega) | (intro q p; rw [q, p]; rfl) | (intro q; rw [q]; rfl) | (intro q; simp only [Bool.and_eq_true, decide_eq_true_eq, beq_iff_eq] at q; omega) | (intros; simp_all; done) | (intros; simp [List.range, List.range.loop]; done) | (intros; simp_all [List.range, List.range.loop]; done))) | refine And.intro (fun hg => ?_) (fun hg => ?_) | (with_reducible refine zac ?_; kernel_rfl) | fail)
set_option maxHeartbeats 1000000 in
theorem zgT (l : List Memo) (hl : l.length < 2 ^ 62) (t : Int) (c : Memo → Int) (f : Nat) (m : Nat) (hm : m ≤ l.length) (h1 : ∀ j (hj : j < l.length), j < m → c l[j] < 0) (h2 : ∀ j (hj : j < l.length), m ≤ j → 0 ≤ c l[j])
    (hp : ∀ x ∈ l, CallOK Try.prog f [.f (memoAV x), .f (ai t)] (fun r o => r = [ri (c x)] ∧ o = [])) :
    CallOK Try.prog 65 [.f (al l.length (memosE l)), .f (ai t), .f (.one (.clos f []))] (fun r o => r = [ri m, rb ((l[m]?.map fun x => c x == 0).getD false)] ∧ o = []) := by
  refine zaq zaG mixed (T := Ty) (n := 49) Try.func65 (c := Try.f65.body.getD .skip) rfl Try.results65 Try.ntmps65 Try.call65 ?_
  simp only [Try.f65, Option.getD]
  repeat (first | with_reducible refine zaa _ _ ?_ | with_reducible refine And.imp_right (zaa _ _) ?_ | with_reducible refine And.imp_right (And.imp_right (zaa _ _)) ?_ | with_reducible refine And.imp_right (And.imp_right (And.imp_right (zaa _ _))) ?_ | rw [zae] | simp only [pkS, TyB,  implies_true, forall_const, Nat.reduceSub, Nat.reduceEqDiff, Nat.reduceAdd, Nat.reduceMul, Nat.reduceLeDiff, Nat.reduceLT, Nat.reduceBEq, reduceCtorEq])
  refine zaH (τ := Nat × Nat) (fun q => ⟨[al l.length (memosE l), ai t, .one (.clos f []), dd, dd, dd, dd, dd, ai l.length, ai q.1, ai q.2, dd, dd, dd, dd, dd, dd, dd, dd, dd, dd, dd, dd, dd, dd, dd, dd, dd, dd, dd, dd, dd, dd, dd, dd, dd, dd, dd, dd, dd, dd, dd, dd, dd, dd, dd, dd, dd, dd], []⟩) (fun q => q.1 ≤ m ∧ m ≤ q.2 ∧ q.2 ≤ l.length) (fun _ => ()) (fun q => q.2 - q.1) (0, l.length) (Gh.fgt ?_) ⟨Nat.zero_le _, hm, Nat.le_refl _⟩ ?_
  · simp only [zaQ, zaR, za6, Int.natCast_zero]
  intro ⟨lo, hi⟩ ⟨b1, b2, b3⟩ hF K hK
  simp only at b1 b2 b3 hF hK ⊢
  repeat (first | with_reducible refine zaa _ _ ?_ | with_reducible refine And.imp_right (zaa _ _) ?_ | with_reducible refine And.imp_right (And.imp_right (zaa _ _)) ?_ | with_reducible refine And.imp_right (And.imp_right (And.imp_right (zaa _ _))) ?_ | rw [zae] | simp only [pkS, TyB,  implies_true, forall_const, Nat.reduceSub, Nat.reduceEqDiff, Nat.reduceAdd, Nat.reduceMul, Nat.reduceLeDiff, Nat.reduceLT, Nat.reduceBEq, reduceCtorEq])
  refine zad (fun hlt => ?_) (fun hge => ?_)
  · have hlt : lo < hi := by simpa using hlt
    obtain ⟨q, hq⟩ : ∃ q : Nat, q = (lo + hi) / 2 := ⟨_, rfl⟩
    have hw1 : IntKind.i64.wrap ((lo : Int) + hi) = ((lo + hi : Nat) : Int) := by rw [wrap64 (by omega) (by omega)]; rfl
    have hw2 : IntKind.u64.wrap ((lo + hi : Nat) : Int) = ((lo + hi : Nat) : Int) := zfR (by omega)
    have hw3 : IntKind.i64.wrap (((lo + hi : Nat) : Int).fdiv (2 ^ (min (Int.toNat 1) IntKind.u64.bits))) = (q : Int) := by
      rw [show (2 : Int) ^ (min (Int.toNat 1) IntKind.u64.bits) = 2 by decide, hq, show (((lo + hi : Nat) : Int)).fdiv 2 = (((lo + hi) / 2 : Nat) : Int) by rw [Int.fdiv_eq_ediv_of_nonneg _ (by decide)]; rfl]
      exact wrap64 (by omega) (by omega)
    have hqh : q < hi := by omega
    have hql : q < l.length := by omega
    have hat := zbC hql
    simp only [List.cons_append, List.nil_append] at hat
    have hcp := hp _ (List.getElem_mem hql)
    have hw4 : IntKind.i64.wrap ((q : Int) + 1) = ((q + 1 : Nat) : Int) := by rw [wrap64 (by omega) (by omega)]; rfl
    have h10 : ∀ (a b : Option Value), (if (1 : Int) < 0 then a else b) = b := fun a b => if_neg (by decide)
    clear hlt
    repeat' (first | with_reducible refine zaa _ _ ?_ | rw [zae] | simp only [pkS, TyB, h10, hw1, hw2, hw3, zaJ, hat, Nat.mul_one, implies_true, forall_const, Nat.reduceSub, Nat.reduceEqDiff, Nat.reduceAdd, Nat.reduceMul, Nat.reduceLeDiff, Nat.reduceLT, Nat.reduceBEq, reduceCtorEq] | ((try refine zak ?_); apply zan; (solve | exact (hcp) | (refine CallOK.le (hcp) ?_; simp [argsLe, aLe, csLe, cLe]))) | (apply zaj; (focus (intro _; (solve | exact (hcp) | (refine CallOK.le (hcp) ?_; simp [argsLe, aLe, csLe, cLe])))); (focus rfl)) | refine zab ?_ | refine zad (fun hb => ?_) (fun hb => ?_) | (refine And.intro ?_ ?_; focus ((try with_reducible refine zal ?_); first | (with_reducible rfl) | ((with_reducible first | refine zam ?_ | refine zaf ?_ | refine zac ?_); kernel_rfl) | (intros; omega) | (intro q p; rw [q, p]; rfl) | (intro q; rw [q]; rfl) | (intro q; simp only [Bool.and_eq_true, decide_eq_true_eq, beq_iff_eq] at q; omega) | (intros; simp_all; done) | (intros; simp [List.range, List.range.loop]; done) | (intros; simp_all [List.range, List.range.loop]; done))) | refine And.intro (fun hg => ?_) (fun hg => ?_) | (with_reducible refine zac ?_; kernel_rfl) | fail)
    · have hqm : q < m := by
        rcases Nat.lt_or_ge q m with h | h
        · exact h
        · have := h2 q hql h
          have hb' : c l[q] < 0 := by simpa using hb
          omega
      refine hK _ (q + 1, hi) (Gh.fgt ?_) ⟨by simp only; omega, b2, b3⟩ trivial (by simp only; omega)
      simp only [hw4, zaQ, zaR, za6]
    · have hqm : m ≤ q := by
        rcases Nat.lt_or_ge q m with h | h
        · have := h1 q hql h
          have hb' : ¬ c l[q] < 0 := by simpa using hb
          omega
        · exact h
      refine hK _ (lo, q) (Gh.fgt ?_) ⟨b1, hqm, by simp only; omega⟩ trivial (by simp only; omega)
      simp only [zaQ, zaR, za6]
  · have he : lo = m := by
      have : ¬ (lo : Int) < hi := by simpa using hge
      omega
    subst he
    by_cases hlt : lo < l.length
    · have hat := zbC hlt
      simp only [List.cons_append, List.nil_append] at hat
      have hcp := hp _ (List.getElem_mem hlt)
      have hd : decide ((lo : Int) < l.length) = true := by simpa using hlt
      repeat' (first | with_reducible refine zaa _ _ ?_ | rw [zae] | simp only [pkS, TyB, hd, zaJ, hat, Nat.mul_one, implies_true, forall_const, Nat.reduceSub, Nat.reduceEqDiff, Nat.reduceAdd, Nat.reduceMul, Nat.reduceLeDiff, Nat.reduceLT, Nat.reduceBEq, reduceCtorEq] | ((try refine zak ?_); apply zan; (solve | exact (hcp) | (refine CallOK.le (hcp) ?_; simp [argsLe, aLe, csLe, cLe]))) | (apply zaj; (focus (intro _; (solve | exact (hcp) | (refine CallOK.le (hcp) ?_; simp [argsLe, aLe, csLe, cLe])))); (focus rfl)) | refine zab ?_ | refine zad (fun hb => ?_) (fun hb => ?_) | (refine And.intro ?_ ?_; focus ((try with_reducible refine zal ?_); first | (with_reducible rfl) | ((with_reducible first | refine zam ?_ | refine zaf ?_ | refine zac ?_); kernel_rfl) | (intros; omega) | (intro q p; rw [q, p]; rfl) | (intro q; rw [q]; rfl) | (intro q; simp only [Bool.and_eq_true, decide_eq_true_eq, beq_iff_eq] at q; omega) | (intros; simp_all; done) | (intros; simp [List.range, List.range.loop]; done) | (intros; simp_all [List.range, List.range.loop]; done))) | refine And.intro (fun hg => ?_) (fun hg => ?_) | (with_reducible refine zac ?_; kernel_rfl) | fail)
      rw [List.getElem?_eq_getElem hlt]; rfl
    · have hd : decide ((lo : Int) < l.length) = false := by simp; omega
      have hn : l[lo]? = none := List.getElem?_eq_none (by omega)
      repeat' (first | with_reducible refine zaa _ _ ?_ | rw [zae] | simp only [pkS, TyB, hd, zaJ, Nat.mul_one, hn, bad_x, Option.map_none, implies_true, forall_const, Nat.reduceSub, Nat.reduceEqDiff, Nat.reduceAdd, Nat.reduceMul, Nat.reduceLeDiff, Nat.reduceLT, Nat.reduceBEq, reduceCtorEq] | refine zab ?_ | refine zad (fun hb => ?_) (fun hb => ?_) | (refine And.intro ?_ ?_; focus ((try with_reducible refine zal ?_); first | (with_reducible rfl) | ((with_reducible first | refine zam ?_ | refine zaf ?_ | refine zac ?_); kernel_rfl) | (intros; omega) | (intro q p; rw [q, p]; rfl) | (intro q; rw [q]; rfl) | (intro q; simp only [Bool.and_eq_true, decide_eq_true_eq, beq_iff_eq] at q; omega) | (intros; simp_all; done) | (intros; simp [List.range, List.range.loop]; done) | (intros; simp_all [List.range, List.range.loop]; done))) | refine And.intro (fun hg => ?_) (fun hg => ?_) | (with_reducible refine zac ?_; kernel_rfl) | fail)
set_option maxHeartbeats 1000000 in
theorem zgU (l : List Lk) (hl : l.length < 2 ^ 62) (t : ByteArray) (c : Lk → Int) (f : Nat) (m : Nat) (hm : m ≤ l.length) (h1 : ∀ j (hj : j < l.length), j < m → c l[j] < 0) (h2 : ∀ j (hj : j < l.length), m ≤ j → 0 ≤ c l[j])
    (hp : ∀ x ∈ l, CallOK Try.prog f [.f (lockAV x), .f (ast t)] (fun r o => r = [ri (c x)] ∧ o = [])) :
    CallOK Try.prog 90 [.f (al l.length (locksE l)), .f (ast t), .f (.one (.clos f []))] (fun r o => r = [ri m, rb ((l[m]?.map fun x => c x == 0).getD false)] ∧ o = []) := by
  refine zaq zaG mixed (T := Ty) (n := 49) Try.func90 (c := Try.f90.body.getD .skip) rfl Try.results90 Try.ntmps90 Try.call90 ?_
  simp only [Try.f90, Option.getD]
  repeat (first | with_reducible refine zaa _ _ ?_ | with_reducible refine And.imp_right (zaa _ _) ?_ | with_reducible refine And.imp_right (And.imp_right (zaa _ _)) ?_ | with_reducible refine And.imp_right (And.imp_right (And.imp_right (zaa _ _))) ?_ | rw [zae] | simp only [pkS, TyB,  implies_true, forall_const, Nat.reduceSub, Nat.reduceEqDiff, Nat.reduceAdd, Nat.reduceMul, Nat.reduceLeDiff, Nat.reduceLT, Nat.reduceBEq, reduceCtorEq])
  refine zaH (τ := Nat × Nat) (fun q => ⟨[al l.length (locksE l), ast t, .one (.clos f []), dd, dd, dd, dd, dd, ai l.length, ai q.1, ai q.2, dd, dd, dd, dd, dd, dd, dd, dd, dd, dd, dd, dd, dd, dd, dd, dd, dd, dd, dd, dd, dd, dd, dd, dd, dd, dd, dd, dd, dd, dd, dd, dd, dd, dd, dd, dd, dd, dd], []⟩) (fun q => q.1 ≤ m ∧ m ≤ q.2 ∧ q.2 ≤ l.length) (fun _ => ()) (fun q => q.2 - q.1) (0, l.length) (Gh.fgt ?_) ⟨Nat.zero_le _, hm, Nat.le_refl _⟩ ?_
  · simp only [zaQ, zaR, za6, Int.natCast_zero]
  intro ⟨lo, hi⟩ ⟨b1, b2, b3⟩ hF K hK
  simp only at b1 b2 b3 hF hK ⊢
  repeat (first | with_reducible refine zaa _ _ ?_ | with_reducible refine And.imp_right (zaa _ _) ?_ | with_reducible refine And.imp_right (And.imp_right (zaa _ _)) ?_ | with_reducible refine And.imp_right (And.imp_right (And.imp_right (zaa _ _))) ?_ | rw [zae] | simp only [pkS, TyB,  implies_true, forall_const, Nat.reduceSub, Nat.reduceEqDiff, Nat.reduceAdd, Nat.reduceMul, Nat.reduceLeDiff, Nat.reduceLT, Nat.reduceBEq, reduceCtorEq])
  refine zad (fun hlt => ?_) (fun hge => ?_)
  · have hlt : lo < hi := by simpa using hlt
    obtain ⟨q, hq⟩ : ∃ q : Nat, q = (lo + hi) / 2 := ⟨_, rfl⟩
    have hw1 : IntKind.i64.wrap ((lo : Int) + hi) = ((lo + hi : Nat) : Int) := by rw [wrap64 (by omega) (by omega)]; rfl
    have hw2 : IntKind.u64.wrap ((lo + hi : Nat) : Int) = ((lo + hi : Nat) : Int) := zfR (by omega)
    have hw3 : IntKind.i64.wrap (((lo + hi : Nat) : Int).fdiv (2 ^ (min (Int.toNat 1) IntKind.u64.bits))) = (q : Int) := by
      rw [show (2 : Int) ^ (min (Int.toNat 1) IntKind.u64.bits) = 2 by decide, hq, show (((lo + hi : Nat) : Int)).fdiv 2 = (((lo + hi) / 2 : Nat) : Int) by rw [Int.fdiv_eq_ediv_of_nonneg _ (by decide)]; rfl]
      exact wrap64 (by omega) (by omega)
    have hqh : q < hi := by omega
    have hql : q < l.length := by omega
    have hat := zaV hql
    simp only [List.cons_append, List.nil_append] at hat
    have hcp := hp _ (List.getElem_mem hql)
    have hw4 : IntKind.i64.wrap ((q : Int) + 1) = ((q + 1 : Nat) : Int) := by rw [wrap64 (by omega) (by omega)]; rfl
    have h10 : ∀ (a b : Option Value), (if (1 : Int) < 0 then a else b) = b := fun a b => if_neg (by decide)
    clear hlt
    repeat' (first | with_reducible refine zaa _ _ ?_ | rw [zae] | simp only [pkS, TyB, h10, hw1, hw2, hw3, zax, hat, Nat.mul_one, implies_true, forall_const, Nat.reduceSub, Nat.reduceEqDiff, Nat.reduceAdd, Nat.reduceMul, Nat.reduceLeDiff, Nat.reduceLT, Nat.reduceBEq, reduceCtorEq] | ((try refine zak ?_); apply zan; (solve | exact (hcp) | (refine CallOK.le (hcp) ?_; simp [argsLe, aLe, csLe, cLe]))) | (apply zaj; (focus (intro _; (solve | exact (hcp) | (refine CallOK.le (hcp) ?_; simp [argsLe, aLe, csLe, cLe])))); (focus rfl)) | refine zab ?_ | refine zad (fun hb => ?_) (fun hb => ?_) | (refine And.intro ?_ ?_; focus ((try with_reducible refine zal ?_); first | (with_reducible rfl) | ((with_reducible first | refine zam ?_ | refine zaf ?_ | refine zac ?_); kernel_rfl) | (intros; omega) | (intro q p; rw [q, p]; rfl) | (intro q; rw [q]; rfl) | (intro q; simp only [Bool.and_eq_true, decide_eq_true_eq, beq_iff_eq] at q; omega) | (intros; simp_all; done) | (intros; simp [List.range, List.range.loop]; done) | (intros; simp_all [List.range, List.range.loop]; done))) | refine And.intro (fun hg => ?_) (fun hg => ?_) | (with_reducible refine zac ?_; kernel_rfl) | fail)
    · have hqm : q < m := by
        rcases Nat.lt_or_ge q m with h | h
        · exact h
        · have := h2 q hql h
          have hb' : c l[q] < 0 := by simpa using hb
          omega
      refine hK _ (q + 1, hi) (Gh.fgt ?_) ⟨by simp only; omega, b2, b3⟩ trivial (by simp only; omega)
      simp only [hw4, zaQ, zaR, za6]
    · have hqm : m ≤ q := by
        rcases Nat.lt_or_ge q m with h | h
        · have := h1 q hql h
          have hb' : ¬ c l[q] < 0 := by simpa using hb
          omega
        · exact h
      refine hK _ (lo, q) (Gh.fgt ?_) ⟨b1, hqm, by simp only; omega⟩ trivial (by simp only; omega)
      simp only [zaQ, zaR, za6]
  · have he : lo = m := by
      have : ¬ (lo : Int) < hi := by simpa using hge
      omega
    subst he
    by_cases hlt : lo < l.length
    · have hat := zaV hlt
      simp only [List.cons_append, List.nil_append] at hat
      have hcp := hp _ (List.getElem_mem hlt)
      have hd : decide ((lo : Int) < l.length) = true := by simpa using hlt
      repeat' (first | with_reducible refine zaa _ _ ?_ | rw [zae] | simp only [pkS, TyB, hd, zax, hat, Nat.mul_one, implies_true, forall_const, Nat.reduceSub, Nat.reduceEqDiff, Nat.reduceAdd, Nat.reduceMul, Nat.reduceLeDiff, Nat.reduceLT, Nat.reduceBEq, reduceCtorEq] | ((try refine zak ?_); apply zan; (solve | exact (hcp) | (refine CallOK.le (hcp) ?_; simp [argsLe, aLe, csLe, cLe]))) | (apply zaj; (focus (intro _; (solve | exact (hcp) | (refine CallOK.le (hcp) ?_; simp [argsLe, aLe, csLe, cLe])))); (focus rfl)) | refine zab ?_ | refine zad (fun hb => ?_) (fun hb => ?_) | (refine And.intro ?_ ?_; focus ((try with_reducible refine zal ?_); first | (with_reducible rfl) | ((with_reducible first | refine zam ?_ | refine zaf ?_ | refine zac ?_); kernel_rfl) | (intros; omega) | (intro q p; rw [q, p]; rfl) | (intro q; rw [q]; rfl) | (intro q; simp only [Bool.and_eq_true, decide_eq_true_eq, beq_iff_eq] at q; omega) | (intros; simp_all; done) | (intros; simp [List.range, List.range.loop]; done) | (intros; simp_all [List.range, List.range.loop]; done))) | refine And.intro (fun hg => ?_) (fun hg => ?_) | (with_reducible refine zac ?_; kernel_rfl) | fail)
      rw [List.getElem?_eq_getElem hlt]; rfl
    · have hd : decide ((lo : Int) < l.length) = false := by simp; omega
      have hn : l[lo]? = none := List.getElem?_eq_none (by omega)
      repeat' (first | with_reducible refine zaa _ _ ?_ | rw [zae] | simp only [pkS, TyB, hd, zax, Nat.mul_one, hn, bad_x, Option.map_none, implies_true, forall_const, Nat.reduceSub, Nat.reduceEqDiff, Nat.reduceAdd, Nat.reduceMul, Nat.reduceLeDiff, Nat.reduceLT, Nat.reduceBEq, reduceCtorEq] | refine zab ?_ | refine zad (fun hb => ?_) (fun hb => ?_) | (refine And.intro ?_ ?_; focus ((try with_reducible refine zal ?_); first | (with_reducible rfl) | ((with_reducible first | refine zam ?_ | refine zaf ?_ | refine zac ?_); kernel_rfl) | (intros; omega) | (intro q p; rw [q, p]; rfl) | (intro q; rw [q]; rfl) | (intro q; simp only [Bool.and_eq_true, decide_eq_true_eq, beq_iff_eq] at q; omega) | (intros; simp_all; done) | (intros; simp [List.range, List.range.loop]; done) | (intros; simp_all [List.range, List.range.loop]; done))) | refine And.intro (fun hg => ?_) (fun hg => ?_) | (with_reducible refine zac ?_; kernel_rfl) | fail)
end Go.Proofs.Ytniafckaafcpbaa
