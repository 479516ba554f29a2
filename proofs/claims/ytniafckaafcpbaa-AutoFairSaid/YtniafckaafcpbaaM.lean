import Derived.Test.YtniafckaafcpbaaH
import Derived.Test.YtniafckaafcpbaaK7
namespace Go.Proofs.Ytniafckaafcpbaa
open Go.Pk
set_option maxRecDepth 100000
set_option linter.unusedSimpArgs false
set_option linter.unusedVariables false
theorem zgZ {a b : Int} : (cmpI a b == 0) = (a == b) := by
  unfold cmpI
  split
  · rw [Bool.eq_iff_iff]; simp; omega
  · split
    · rw [Bool.eq_iff_iff]; simp; omega
    · rw [Bool.eq_iff_iff]; simp; omega
theorem zfW {a b : Int} : cmpI a b < 0 ↔ a < b := by
  unfold cmpI
  split
  · simp; omega
  · split <;> simp <;> omega
theorem zfX {α : Type} {o : Option α} {p : α → Bool} : (o.filter p).isSome = (o.map p).getD false := by
  cases o with
  | none => rfl
  | some x => simp only [Option.filter, Option.map_some, Option.getD_some]; cases p x <;> rfl
theorem num1_ok (x : Sess) (n : Int) : CallOK Try.prog 79 [.f (sessAV x), .f (.one (.elt [iD n]))] (fun r o => r = [rb (x.num == n)] ∧ o = []) := by
  refine zaq zaG mixed (T := Ty) (n := 8) Try.func79 (c := Try.f79.body.getD .skip) rfl Try.results79 Try.ntmps79 Try.call79 ?_
  simp only [Try.f79, Option.getD]
  repeat' (first | (with_reducible first | refine zaa _ _ ?_ | refine zah ?_ | refine zai ?_) | rw [zae] | simp only [pkS, TyB, pkY, Int.reduceEq, bne_self_eq_false, Int.reduceBEq, Int.reduceBNe, implies_true, forall_const, Nat.reduceSub, Nat.reduceEqDiff, Nat.reduceAdd, Nat.reduceMul, Nat.reduceLeDiff, Nat.reduceLT, Nat.reduceBEq, reduceCtorEq] | refine zab ?_ | refine zad (fun hb => ?_) (fun hb => ?_) | (refine And.intro ?_ ?_; focus ((try with_reducible refine zal ?_); first | (with_reducible rfl) | ((with_reducible first | refine zam ?_ | refine zaf ?_ | refine zac ?_); kernel_rfl) | (intros; omega) | (intro q p; rw [q, p]; rfl) | (intro q; rw [q]; rfl) | (intro q; simp only [Bool.and_eq_true, decide_eq_true_eq, beq_iff_eq] at q; omega) | (intros; simp_all; done) | (intros; simp [List.range, List.range.loop]; done) | (intros; simp_all [List.range, List.range.loop]; done))) | refine And.intro (fun hg => ?_) (fun hg => ?_) | (with_reducible refine zac ?_; kernel_rfl) | fail)
theorem zeQ (l : List Sess) (hl : l.length < 2 ^ 62) (n : Int) : CallOK Try.prog 54 [.f (al l.length (sessE l)), .f (ai n)] (fun r o => r = [rb (numbered l n)] ∧ o = []) := by
  refine zaq zaG mixed (T := Ty) (n := 8) Try.func54 (c := Try.f54.body.getD .skip) rfl Try.results54 Try.ntmps54 Try.call54 ?_
  simp only [Try.f54, Option.getD]
  have h := zfS l hl (fun x => x.num == n) 79 [.elt [iD n]] rfl rfl (fun x _ => num1_ok x n)
  repeat' (first | (with_reducible first | refine zaa _ _ ?_ | refine zah ?_ | refine zai ?_) | rw [zae] | simp only [pkS, TyB, pkY, Int.reduceEq, bne_self_eq_false, Int.reduceBEq, Int.reduceBNe, implies_true, forall_const, Nat.reduceSub, Nat.reduceEqDiff, Nat.reduceAdd, Nat.reduceMul, Nat.reduceLeDiff, Nat.reduceLT, Nat.reduceBEq, reduceCtorEq] | ((try refine zak ?_); apply zan; (solve | exact (h) | (refine CallOK.le (h) ?_; simp [argsLe, aLe, csLe, cLe]))) | (apply zaj; (focus (intro _; (solve | exact (h) | (refine CallOK.le (h) ?_; simp [argsLe, aLe, csLe, cLe])))); (focus rfl)) | refine zab ?_ | refine zad (fun hb => ?_) (fun hb => ?_) | (refine And.intro ?_ ?_; focus ((try with_reducible refine zal ?_); first | (with_reducible rfl) | ((with_reducible first | refine zam ?_ | refine zaf ?_ | refine zac ?_); kernel_rfl) | (intros; omega) | (intro q p; rw [q, p]; rfl) | (intro q; rw [q]; rfl) | (intro q; simp only [Bool.and_eq_true, decide_eq_true_eq, beq_iff_eq] at q; omega) | (intros; simp_all; done) | (intros; simp [List.range, List.range.loop]; done) | (intros; simp_all [List.range, List.range.loop]; done))) | refine And.intro (fun hg => ?_) (fun hg => ?_) | (with_reducible refine zac ?_; kernel_rfl) | fail)
  rfl
theorem splace1_ok (x : Sess) (c : Int) : CallOK Try.prog 88 [.f (sessAV x), .f (ai c)] (fun r o => r = [ri (cmpI x.client c)] ∧ o = []) := by
  refine zaq zaG mixed (T := Ty) (n := 9) Try.func88 (c := Try.f88.body.getD .skip) rfl Try.results88 Try.ntmps88 Try.call88 ?_
  simp only [Try.f88, Option.getD]
  repeat' (first | (with_reducible first | refine zaa _ _ ?_ | refine zah ?_ | refine zai ?_) | rw [zae] | simp only [pkS, TyB, pkY, Int.reduceEq, bne_self_eq_false, Int.reduceBEq, Int.reduceBNe, implies_true, forall_const, Nat.reduceSub, Nat.reduceEqDiff, Nat.reduceAdd, Nat.reduceMul, Nat.reduceLeDiff, Nat.reduceLT, Nat.reduceBEq, reduceCtorEq] | ((try refine zak ?_); apply zan; (solve | exact (zbf x.client c) | (refine CallOK.le (zbf x.client c) ?_; simp [argsLe, aLe, csLe, cLe]))) | (apply zaj; (focus (intro _; (solve | exact (zbf x.client c) | (refine CallOK.le (zbf x.client c) ?_; simp [argsLe, aLe, csLe, cLe])))); (focus rfl)) | refine zab ?_ | refine zad (fun hb => ?_) (fun hb => ?_) | (refine And.intro ?_ ?_; focus ((try with_reducible refine zal ?_); first | (with_reducible rfl) | ((with_reducible first | refine zam ?_ | refine zaf ?_ | refine zac ?_); kernel_rfl) | (intros; omega) | (intro q p; rw [q, p]; rfl) | (intro q; rw [q]; rfl) | (intro q; simp only [Bool.and_eq_true, decide_eq_true_eq, beq_iff_eq] at q; omega) | (intros; simp_all; done) | (intros; simp [List.range, List.range.loop]; done) | (intros; simp_all [List.range, List.range.loop]; done))) | refine And.intro (fun hg => ?_) (fun hg => ?_) | (with_reducible refine zac ?_; kernel_rfl) | fail)
theorem zeR (l : List Sess) (hs : SS l) (hl : l.length < 2 ^ 62) (c : Int) : CallOK Try.prog 68 [.f (al l.length (sessE l)), .f (ai c)] (fun r o => r = [ri (posS l c), rb (findS l c).isSome] ∧ o = []) := by
  refine zaq zaG mixed (T := Ty) (n := 11) Try.func68 (c := Try.f68.body.getD .skip) rfl Try.results68 Try.ntmps68 Try.call68 ?_
  simp only [Try.f68, Option.getD]
  have h := zgS l hl c (fun x => cmpI x.client c) 88 (posS l c) zbt
    (fun j hj h => by have := zeK hj h; simp at this; exact zfW.2 this)
    (fun j hj h => by have := zeL hj (zhr hs c) h; simp at this; have h2 := @zfW l[j].client c; omega) (fun x _ => splace1_ok x c)
  have e : ((l[posS l c]?.map fun x => cmpI x.client c == 0).getD false) = (findS l c).isSome := by
    rw [zeM hs, zfX]
    simp only [zgZ]
  rw [e] at h
  repeat' (first | (with_reducible first | refine zaa _ _ ?_ | refine zah ?_ | refine zai ?_) | rw [zae] | simp only [pkS, TyB, pkY, Int.reduceEq, bne_self_eq_false, Int.reduceBEq, Int.reduceBNe, implies_true, forall_const, Nat.reduceSub, Nat.reduceEqDiff, Nat.reduceAdd, Nat.reduceMul, Nat.reduceLeDiff, Nat.reduceLT, Nat.reduceBEq, reduceCtorEq] | ((try refine zak ?_); apply zan; (solve | exact (h) | (refine CallOK.le (h) ?_; simp [argsLe, aLe, csLe, cLe]))) | (apply zaj; (focus (intro _; (solve | exact (h) | (refine CallOK.le (h) ?_; simp [argsLe, aLe, csLe, cLe])))); (focus rfl)) | refine zab ?_ | refine zad (fun hb => ?_) (fun hb => ?_) | (refine And.intro ?_ ?_; focus ((try with_reducible refine zal ?_); first | (with_reducible rfl) | ((with_reducible first | refine zam ?_ | refine zaf ?_ | refine zac ?_); kernel_rfl) | (intros; omega) | (intro q p; rw [q, p]; rfl) | (intro q; rw [q]; rfl) | (intro q; simp only [Bool.and_eq_true, decide_eq_true_eq, beq_iff_eq] at q; omega) | (intros; simp_all; done) | (intros; simp [List.range, List.range.loop]; done) | (intros; simp_all [List.range, List.range.loop]; done))) | refine And.intro (fun hg => ?_) (fun hg => ?_) | (with_reducible refine zac ?_; kernel_rfl) | fail)
theorem rfs2 {a b a' b' : RO} : rfsLe [.one a, .one b] [.one a', .one b'] = (roLe a a' ∧ roLe b b' ∧ True) := rfl
def noSess : Sess := ⟨0, 0, 0⟩
theorem zeh (l : List Sess) (hs : SS l) (hl : l.length < 2 ^ 62) (c : Int) : CallOK Try.prog 43 [.f (al l.length (sessE l)), .f (ai c)]
    (fun r o => r = [.agg [.d (iD ((findS l c).getD noSess).client), .d (iD ((findS l c).getD noSess).num), .d (iD ((findS l c).getD noSess).renewed)], rb (findS l c).isSome] ∧ o = []) := by
  refine zaq zaG mixed (T := Ty) (n := 20) Try.func43 (c := Try.f43.body.getD .skip) rfl Try.results43 Try.ntmps43 Try.call43 ?_
  simp only [Try.f43, Option.getD]
  have h := zeR l hs hl c
  cases hf : findS l c with
  | none =>
    rw [hf] at h
    simp only [Option.isSome_none] at h
    repeat' (first | (with_reducible first | refine zaa _ _ ?_ | refine zah ?_ | refine zai ?_) | rw [zae] | simp only [pkS, TyB, pkY, Int.reduceEq, bne_self_eq_false, Int.reduceBEq, Int.reduceBNe, implies_true, forall_const, Nat.reduceSub, Nat.reduceEqDiff, Nat.reduceAdd, Nat.reduceMul, Nat.reduceLeDiff, Nat.reduceLT, Nat.reduceBEq, reduceCtorEq] | ((try refine zak ?_); apply zan; (solve | exact (h) | (refine CallOK.le (h) ?_; simp [argsLe, aLe, csLe, cLe]))) | (apply zaj; (focus (intro _; (solve | exact (h) | (refine CallOK.le (h) ?_; simp [argsLe, aLe, csLe, cLe])))); (focus rfl)) | refine zab ?_ | refine zad (fun hb => ?_) (fun hb => ?_) | (refine And.intro ?_ ?_; focus ((try with_reducible refine zal ?_); first | (with_reducible rfl) | ((with_reducible first | refine zam ?_ | refine zaf ?_ | refine zac ?_); kernel_rfl) | (intros; omega) | (intro q p; rw [q, p]; rfl) | (intro q; rw [q]; rfl) | (intro q; simp only [Bool.and_eq_true, decide_eq_true_eq, beq_iff_eq] at q; omega) | (intros; simp_all; done) | (intros; simp [List.range, List.range.loop]; done) | (intros; simp_all [List.range, List.range.loop]; done))) | refine And.intro (fun hg => ?_) (fun hg => ?_) | (with_reducible refine zac ?_; kernel_rfl) | fail)
    rfl
  | some x =>
    rw [hf] at h
    simp only [Option.isSome_some] at h
    rw [zeM hs] at hf
    have hg : l[posS l c]? = some x := by
      cases hq : l[posS l c]? with
      | none => rw [hq] at hf; simp at hf
      | some y => rw [hq] at hf; simp only [Option.filter] at hf; split at hf <;> simp_all
    obtain ⟨hi, he⟩ := List.getElem?_eq_some_iff.1 hg
    have hat := zbo hi
    rw [he] at hat
    simp only [List.cons_append, List.nil_append] at hat
    repeat' (first | (with_reducible first | refine zaa _ _ ?_ | refine zah ?_ | refine zai ?_) | rw [zae] | simp only [pkS, TyB, hat, zaB, pkY, Int.reduceEq, bne_self_eq_false, Int.reduceBEq, Int.reduceBNe, implies_true, forall_const, Nat.reduceSub, Nat.reduceEqDiff, Nat.reduceAdd, Nat.reduceMul, Nat.reduceLeDiff, Nat.reduceLT, Nat.reduceBEq, reduceCtorEq] | ((try refine zak ?_); apply zan; (solve | exact (h) | (refine CallOK.le (h) ?_; simp [argsLe, aLe, csLe, cLe]))) | (apply zaj; (focus (intro _; (solve | exact (h) | (refine CallOK.le (h) ?_; simp [argsLe, aLe, csLe, cLe])))); (focus rfl)) | refine zab ?_ | refine zad (fun hb => ?_) (fun hb => ?_) | (refine And.intro ?_ ?_; focus ((try with_reducible refine zal ?_); first | (with_reducible rfl) | ((with_reducible first | refine zam ?_ | refine zaf ?_ | refine zac ?_); kernel_rfl) | (intros; omega) | (intro q p; rw [q, p]; rfl) | (intro q; rw [q]; rfl) | (intro q; simp only [Bool.and_eq_true, decide_eq_true_eq, beq_iff_eq] at q; omega) | (intros; simp_all; done) | (intros; simp [List.range, List.range.loop]; done) | (intros; simp_all [List.range, List.range.loop]; done))) | refine And.intro (fun hg => ?_) (fun hg => ?_) | (with_reducible refine zac ?_; kernel_rfl) | fail)
    rfl
theorem due_ok (l : List Sess) (hl : l.length < 2 ^ 30) (now lease : Int) (hr : ∀ s ∈ l, 0 ≤ s.renewed ∧ s.renewed ≤ High) : CallOK Try.prog 17 [.f (al l.length (sessE l)), .f (ai now), .f (ai lease)]
    (fun r o => r = [rowI (dueP l now lease)] ∧ o = []) := by
  refine CallOK.nil ?_
  refine zaq zaG mixed (T := Ty) (n := 43) Try.func17 (c := Try.f17.body.getD .skip) rfl Try.results17 Try.ntmps17 Try.call17 ?_
  simp only [Try.f17, Option.getD]
  cases hc : (decide (now < 0) || decide (now > High) || decide (lease < 0) || decide (lease > High))
  · have hd : dueP l now lease = (l.filter fun s => decide (now - s.renewed ≥ lease)).map Sess.client := by rw [dueP, if_neg (by rw [hc]; simp)]
    rw [hd]
    have hn : 0 ≤ now ∧ now ≤ High := by simp at hc; omega
    repeat' (first | (with_reducible first | refine zaa _ _ ?_ | refine zah ?_ | refine zai ?_) | rw [zae] | simp only [pkS, TyB, hc, zaB, pkY, Int.reduceEq, bne_self_eq_false, Int.reduceBEq, Int.reduceBNe, implies_true, forall_const, Nat.reduceSub, Nat.reduceEqDiff, Nat.reduceAdd, Nat.reduceMul, Nat.reduceLeDiff, Nat.reduceLT, Nat.reduceBEq, reduceCtorEq] | refine zab ?_ | refine zad (fun hb => ?_) (fun hb => ?_) | (refine And.intro ?_ ?_; focus ((try with_reducible refine zal ?_); first | (with_reducible rfl) | ((with_reducible first | refine zam ?_ | refine zaf ?_ | refine zac ?_); kernel_rfl) | (intros; omega) | (intro q p; rw [q, p]; rfl) | (intro q; rw [q]; rfl) | (intro q; simp only [Bool.and_eq_true, decide_eq_true_eq, beq_iff_eq] at q; omega) | (intros; simp_all; done) | (intros; simp [List.range, List.range.loop]; done) | (intros; simp_all [List.range, List.range.loop]; done))) | refine And.intro (fun hg => ?_) (fun hg => ?_) | (with_reducible refine zac ?_; kernel_rfl) | fail)
    refine zaH (τ := Nat × List Int) (fun t => ⟨[dd, ai now, ai lease, dd, dd, dd, dd, .one (.own ⟨7, 1, 1⟩ 0 t.2.length), dd, dd, dd, dd, dd, dd, dd, dd, dd, dd, dd, dd, dd, dd, dd, dd, al l.length (sessE l), ai l.length, ai t.1, dd, dd, dd, dd, dd, dd, dd, dd, dd, dd, dd, dd, dd, dd, dd, dd], [(7, { next := 2, l := [none, some { e := 1, var := false, fz := false, sz := 1, cells := (intsE t.2).map C.d }] }), (9, ⟨2, []⟩), (39, ⟨2, []⟩), (40, ⟨2, []⟩)]⟩)
      (fun t => t.1 ≤ l.length ∧ t.2.length ≤ t.1) (fun t => t.2 ++ ((l.drop t.1).filter fun s => decide (now - s.renewed ≥ lease)).map Sess.client) (fun t => l.length - t.1) (0, [])
      ((Gh.nil (i := 7) (s := 7) (sz := 1) rfl).trans (Gh.canon [7] [9, 39, 40] [] (by simp only [zar, zaz, zas, zat, zau, zav, List.set_cons_zero, List.set_cons_succ, and_true, true_and, Int.natCast_zero, Int.cast_ofNat_Int, D.v.injEq, Value.int.injEq]; try (repeat' (first | rfl | omega | with_reducible apply And.intro))) rfl rfl)) ⟨Nat.zero_le _, Nat.zero_le _⟩ ?_
    intro ⟨i, acc⟩ ⟨hi0, ha⟩ hF K hK
    simp only [List.drop_zero, List.nil_append] at hi0 ha hF hK ⊢
    repeat (first | with_reducible refine zaa _ _ ?_ | with_reducible refine And.imp_right (zaa _ _) ?_ | with_reducible refine And.imp_right (And.imp_right (zaa _ _)) ?_ | with_reducible refine And.imp_right (And.imp_right (And.imp_right (zaa _ _))) ?_ | rw [zae] | simp only [pkS, TyB,  implies_true, forall_const, Nat.reduceSub, Nat.reduceEqDiff, Nat.reduceAdd, Nat.reduceMul, Nat.reduceLeDiff, Nat.reduceLT, Nat.reduceBEq, reduceCtorEq])
    refine zad (fun hlt => ?_) (fun hge => ?_)
    · have hi : i < l.length := by simpa using hlt
      have hat := zbo hi
      simp only [List.cons_append, List.nil_append] at hat
      have hw := zaI hi (by omega)
      have hrb := hr _ (List.getElem_mem hi)
      have hH : High = 2305843009213693952 := rfl
      have hw2 : IntKind.i64.wrap (now - l[i].renewed) = now - l[i].renewed := wrap64 (by omega) (by omega)
      have hFs : ((l.drop i).filter fun s => decide (now - s.renewed ≥ lease)).map Sess.client = if decide (now - l[i].renewed ≥ lease) = true then l[i].client :: ((l.drop (i + 1)).filter fun s => decide (now - s.renewed ≥ lease)).map Sess.client else ((l.drop (i + 1)).filter fun s => decide (now - s.renewed ≥ lease)).map Sess.client := by
        rw [List.drop_eq_getElem_cons hi, List.filter_cons]
        split <;> simp
      cases hb : decide (now - l[i].renewed ≥ lease)
      · rw [hb, if_neg (by simp)] at hFs
        repeat' (first | (with_reducible first | refine zaa _ _ ?_ | refine zah ?_ | refine zai ?_) | rw [zae] | simp only [pkS, TyB, hat, zaB, hw2, hb, pkY, Int.reduceEq, bne_self_eq_false, Int.reduceBEq, Int.reduceBNe, implies_true, forall_const, Nat.reduceSub, Nat.reduceEqDiff, Nat.reduceAdd, Nat.reduceMul, Nat.reduceLeDiff, Nat.reduceLT, Nat.reduceBEq, reduceCtorEq] | refine zab ?_ | refine zad (fun hb => ?_) (fun hb => ?_) | (refine And.intro ?_ ?_; focus ((try with_reducible refine zal ?_); first | (with_reducible rfl) | ((with_reducible first | refine zam ?_ | refine zaf ?_ | refine zac ?_); kernel_rfl) | (intros; omega) | (intro q p; rw [q, p]; rfl) | (intro q; rw [q]; rfl) | (intro q; simp only [Bool.and_eq_true, decide_eq_true_eq, beq_iff_eq] at q; omega) | (intros; simp_all; done) | (intros; simp [List.range, List.range.loop]; done) | (intros; simp_all [List.range, List.range.loop]; done))) | refine And.intro (fun hg => ?_) (fun hg => ?_) | (with_reducible refine zac ?_; kernel_rfl) | fail)
        exact hK _ (i + 1, acc) (Gh.canon [7] [] [] (by simp only [hw, zar, zaz, zas, zat, zau, zav, List.set_cons_zero, List.set_cons_succ, and_true, true_and, Int.natCast_zero, Int.cast_ofNat_Int, D.v.injEq, Value.int.injEq]; try (repeat' (first | rfl | omega | with_reducible apply And.intro))) rfl rfl) ⟨hi, by simp only; omega⟩ (by simp only; rw [hFs]) (by simp only; omega)
      · rw [hb, if_pos rfl] at hFs
        repeat' (first | (with_reducible first | refine zaa _ _ ?_ | refine zah ?_ | refine zai ?_) | rw [zae] | simp only [pkS, TyB, hat, zaB, hw2, hb, pkY, Int.reduceEq, bne_self_eq_false, Int.reduceBEq, Int.reduceBNe, implies_true, forall_const, Nat.reduceSub, Nat.reduceEqDiff, Nat.reduceAdd, Nat.reduceMul, Nat.reduceLeDiff, Nat.reduceLT, Nat.reduceBEq, reduceCtorEq] | refine zab ?_ | refine zad (fun hb => ?_) (fun hb => ?_) | (refine And.intro ?_ ?_; focus ((try with_reducible refine zal ?_); first | (with_reducible rfl) | ((with_reducible first | refine zam ?_ | refine zaf ?_ | refine zac ?_); kernel_rfl) | (intros; omega) | (intro q p; rw [q, p]; rfl) | (intro q; rw [q]; rfl) | (intro q; simp only [Bool.and_eq_true, decide_eq_true_eq, beq_iff_eq] at q; omega) | (intros; simp_all; done) | (intros; simp [List.range, List.range.loop]; done) | (intros; simp_all [List.range, List.range.loop]; done))) | refine And.intro (fun hg => ?_) (fun hg => ?_) | (with_reducible refine zac ?_; kernel_rfl) | fail)
        exact hK _ (i + 1, acc ++ [l[i].client]) (Gh.canon [7] [] [] (by simp only [hw, List.length_append, List.length_singleton, zar, zaz, zas, zat, zau, zav, List.set_cons_zero, List.set_cons_succ, and_true, true_and, Int.natCast_zero, Int.cast_ofNat_Int, D.v.injEq, Value.int.injEq]; try (repeat' (first | rfl | omega | with_reducible apply And.intro))) rfl (by simp only [List.length_append, List.length_singleton]; rw [zcF]; rfl)) ⟨hi, by simp only [List.length_append, List.length_singleton]; omega⟩ (by simp only [List.append_assoc, List.singleton_append]; rw [hFs]) (by simp only; omega)
    · have hi : i = l.length := by
        have : ¬ (i : Int) < l.length := by simpa using hge
        omega
      rw [hi, List.drop_length, List.filter_nil, List.map_nil, List.append_nil] at hF
      rw [← hF]
      repeat' (first | (with_reducible first | refine zaa _ _ ?_ | refine zah ?_ | refine zai ?_) | rw [zae] | simp only [pkS, TyB, pkY, Int.reduceEq, bne_self_eq_false, Int.reduceBEq, Int.reduceBNe, implies_true, forall_const, Nat.reduceSub, Nat.reduceEqDiff, Nat.reduceAdd, Nat.reduceMul, Nat.reduceLeDiff, Nat.reduceLT, Nat.reduceBEq, reduceCtorEq] | refine zab ?_ | refine zad (fun hb => ?_) (fun hb => ?_) | (refine And.intro ?_ ?_; focus ((try with_reducible refine zal ?_); first | (with_reducible rfl) | ((with_reducible first | refine zam ?_ | refine zaf ?_ | refine zac ?_); kernel_rfl) | (intros; omega) | (intro q p; rw [q, p]; rfl) | (intro q; rw [q]; rfl) | (intro q; simp only [Bool.and_eq_true, decide_eq_true_eq, beq_iff_eq] at q; omega) | (intros; simp_all; done) | (intros; simp [List.range, List.range.loop]; done) | (intros; simp_all [List.range, List.range.loop]; done))) | refine And.intro (fun hg => ?_) (fun hg => ?_) | (with_reducible refine zac ?_; kernel_rfl) | fail)
      simp [rfs1, roLe, rowI]
  · have hd : dueP l now lease = [] := by rw [dueP, if_pos hc]
    rw [hd]
    repeat' (first | (with_reducible first | refine zaa _ _ ?_ | refine zah ?_ | refine zai ?_) | rw [zae] | simp only [pkS, TyB, hc, pkY, Int.reduceEq, bne_self_eq_false, Int.reduceBEq, Int.reduceBNe, implies_true, forall_const, Nat.reduceSub, Nat.reduceEqDiff, Nat.reduceAdd, Nat.reduceMul, Nat.reduceLeDiff, Nat.reduceLT, Nat.reduceBEq, reduceCtorEq] | refine zab ?_ | refine zad (fun hb => ?_) (fun hb => ?_) | (refine And.intro ?_ ?_; focus ((try with_reducible refine zal ?_); first | (with_reducible rfl) | ((with_reducible first | refine zam ?_ | refine zaf ?_ | refine zac ?_); kernel_rfl) | (intros; omega) | (intro q p; rw [q, p]; rfl) | (intro q; rw [q]; rfl) | (intro q; simp only [Bool.and_eq_true, decide_eq_true_eq, beq_iff_eq] at q; omega) | (intros; simp_all; done) | (intros; simp [List.range, List.range.loop]; done) | (intros; simp_all [List.range, List.range.loop]; done))) | refine And.intro (fun hg => ?_) (fun hg => ?_) | (with_reducible refine zac ?_; kernel_rfl) | fail)
    simp [rfs1, roLe, rowI]
set_option maxHeartbeats 4000000 in
theorem open_ok (l : List Sess) (hs : SS l) (hl : l.length < 2 ^ 30) (c num now : Int) (hc : isClient c = true) (h1 : 1 ≤ num) (hn : 0 ≤ now ∧ now ≤ High) (hf : findS l c = none) (hnum : numbered l num = false) :
    CallOK Try.prog 69 [.f (al l.length (sessE l)), .f (ai c), .f (ai num), .f (ai now)]
    (fun r o => r = [.one (.own 3 (openP l c num now).1.length (sessE (openP l c num now).1) false), ri (openP l c num now).2] ∧ o = []) := by
  refine CallOK.nil ?_
  refine zaq zaG mixed (T := Ty) (n := 76) Try.func69 (c := Try.f69.body.getD .skip) rfl Try.results69 Try.ntmps69 Try.call69 ?_
  simp only [Try.f69, Option.getD]
  have hp := zeR l hs (by omega) c
  have hcl := zdE c
  rw [show (decide (c ≥ 0) && decide (c < 8)) = true from hc] at hcl
  have hnb := zeQ l (by omega) num
  rw [hnum] at hnb
  rw [hf] at hp
  simp only [Option.isSome_none] at hp
  have hcn := zdR l.length (sessE l) zaB (by omega)
  have e1 : decide (num < 1) = false := by simp; omega
  have e2 : decide (now < 0) = false := by simp; omega
  have e3 : decide (now > 2305843009213693952) = false := by have : High = 2305843009213693952 := rfl; simp; omega
  have hin := insSess_ok l.length (posS l c) (sessE l) [iD c, iD num, iD now] zaB rfl zbt hl
  have eo : openP l c num now = if decide (num > High) = true then ([], 1) else if decide ((l.length : Int) ≥ 5) = true then ([], 5) else (l.take (posS l c) ++ ⟨c, num, now⟩ :: l.drop (posS l c), 0) := by
    unfold openP
    rw [hf, hnum, hc, e1, e2, e3]
    cases decide (num > High) <;> simp
  rw [eo]
  have hd : (sessE l).drop (posS l c * 3) = [] ∨ ∃ n1 n2 n3 q, (sessE l).drop (posS l c * 3) = iD n1 :: iD n2 :: iD n3 :: q := by
    rcases Nat.lt_or_ge (posS l c) l.length with h | h
    · exact .inr ⟨_, _, _, _, zbo h⟩
    · exact .inl (List.drop_of_length_le (by rw [zaB]; omega))
  have hti := zhv Sess.enc 3 (fun _ => rfl) (l := l) (k := posS l c) zbt ⟨c, num, now⟩
  have htl := zeN (l := l) (k := posS l c) zbt ⟨c, num, now⟩
  cases e4 : decide (num > 2305843009213693952)
  · rw [if_neg (by simp)]
    cases e5 : decide ((l.length : Int) ≥ 5)
    · rw [if_neg (by simp)]
      simp only [hti, htl]
      rcases hd with hat | ⟨n1, n2, n3, q, hat⟩
      · rw [hat] at hin
        repeat' (first | (with_reducible first | refine zaa _ _ ?_ | refine zah ?_ | refine zai ?_) | rw [zae] | simp only [pkS, TyB, zaB, List.drop_nil, hat, e1, e2, e3, e4, e5, pkY, Int.reduceEq, bne_self_eq_false, Int.reduceBEq, Int.reduceBNe, implies_true, forall_const, Nat.reduceSub, Nat.reduceEqDiff, Nat.reduceAdd, Nat.reduceMul, Nat.reduceLeDiff, Nat.reduceLT, Nat.reduceBEq, reduceCtorEq] | ((try refine zak ?_); apply zan; (solve | exact (hp) | exact (hcl) | exact (hnb) | exact (hcn) | (refine CallOK.le (hp) ?_; simp [argsLe, aLe, csLe, cLe]) | (refine CallOK.le (hcl) ?_; simp [argsLe, aLe, csLe, cLe]) | (refine CallOK.le (hnb) ?_; simp [argsLe, aLe, csLe, cLe]) | (refine CallOK.le (hcn) ?_; simp [argsLe, aLe, csLe, cLe]))) | (apply zaj; (focus (intro _; (solve | exact (hp) | exact (hcl) | exact (hnb) | exact (hcn) | (refine CallOK.le (hp) ?_; simp [argsLe, aLe, csLe, cLe]) | (refine CallOK.le (hcl) ?_; simp [argsLe, aLe, csLe, cLe]) | (refine CallOK.le (hnb) ?_; simp [argsLe, aLe, csLe, cLe]) | (refine CallOK.le (hcn) ?_; simp [argsLe, aLe, csLe, cLe])))); (focus rfl)) | refine zab ?_ | refine zad (fun hb => ?_) (fun hb => ?_) | (refine And.intro ?_ ?_; focus ((try with_reducible refine zal ?_); first | (with_reducible rfl) | ((with_reducible first | refine zam ?_ | refine zaf ?_ | refine zac ?_); kernel_rfl) | (intros; omega) | (intro q p; rw [q, p]; rfl) | (intro q; rw [q]; rfl) | (intro q; simp only [Bool.and_eq_true, decide_eq_true_eq, beq_iff_eq] at q; omega) | (intros; simp_all; done) | (intros; simp [List.range, List.range.loop]; done) | (intros; simp_all [List.range, List.range.loop]; done))) | refine And.intro (fun hg => ?_) (fun hg => ?_) | (with_reducible refine zac ?_; kernel_rfl) | fail)
        refine zbb (mv := ?mv1) (lent := ?le1) 0 ?ha1 (hin) ?hb1 ?hc1
        case ha1 => (try simp only [pkS, TyB, zaC, implies_true, forall_const, Nat.reduceSub, Nat.reduceEqDiff, Nat.reduceAdd, Nat.reduceMul, Nat.reduceLeDiff, Nat.reduceLT, Nat.reduceBEq, reduceCtorEq]); exact rfl
        case hb1 => (try simp only [pkS, TyB, scM, implies_true, forall_const, Nat.reduceSub, Nat.reduceEqDiff, Nat.reduceAdd, Nat.reduceMul, Nat.reduceLeDiff, Nat.reduceLT, Nat.reduceBEq, reduceCtorEq]); repeat' (first | rfl | trivial | omega | with_reducible refine And.intro ?_ ?_)
        show aops _ _ _ _ _ _ _ _
        repeat' (first | (with_reducible first | refine zaa _ _ ?_ | refine zah ?_ | refine zai ?_) | rw [zae] | simp only [pkS, TyB, hat, pkY, Int.reduceEq, bne_self_eq_false, Int.reduceBEq, Int.reduceBNe, implies_true, forall_const, Nat.reduceSub, Nat.reduceEqDiff, Nat.reduceAdd, Nat.reduceMul, Nat.reduceLeDiff, Nat.reduceLT, Nat.reduceBEq, reduceCtorEq] | refine zab ?_ | refine zad (fun hb => ?_) (fun hb => ?_) | (refine And.intro ?_ ?_; focus ((try with_reducible refine zal ?_); first | (with_reducible rfl) | ((with_reducible first | refine zam ?_ | refine zaf ?_ | refine zac ?_); kernel_rfl) | (intros; omega) | (intro q p; rw [q, p]; rfl) | (intro q; rw [q]; rfl) | (intro q; simp only [Bool.and_eq_true, decide_eq_true_eq, beq_iff_eq] at q; omega) | (intros; simp_all; done) | (intros; simp [List.range, List.range.loop]; done) | (intros; simp_all [List.range, List.range.loop]; done))) | refine And.intro (fun hg => ?_) (fun hg => ?_) | (with_reducible refine zac ?_; kernel_rfl) | fail)
        simp [rfs2, roLe]
      · rw [hat] at hin
        repeat' (first | (with_reducible first | refine zaa _ _ ?_ | refine zah ?_ | refine zai ?_) | rw [zae] | simp only [pkS, TyB, zaB, hat, e1, e2, e3, e4, e5, pkY, Int.reduceEq, bne_self_eq_false, Int.reduceBEq, Int.reduceBNe, implies_true, forall_const, Nat.reduceSub, Nat.reduceEqDiff, Nat.reduceAdd, Nat.reduceMul, Nat.reduceLeDiff, Nat.reduceLT, Nat.reduceBEq, reduceCtorEq] | ((try refine zak ?_); apply zan; (solve | exact (hp) | exact (hcl) | exact (hnb) | exact (hcn) | (refine CallOK.le (hp) ?_; simp [argsLe, aLe, csLe, cLe]) | (refine CallOK.le (hcl) ?_; simp [argsLe, aLe, csLe, cLe]) | (refine CallOK.le (hnb) ?_; simp [argsLe, aLe, csLe, cLe]) | (refine CallOK.le (hcn) ?_; simp [argsLe, aLe, csLe, cLe]))) | (apply zaj; (focus (intro _; (solve | exact (hp) | exact (hcl) | exact (hnb) | exact (hcn) | (refine CallOK.le (hp) ?_; simp [argsLe, aLe, csLe, cLe]) | (refine CallOK.le (hcl) ?_; simp [argsLe, aLe, csLe, cLe]) | (refine CallOK.le (hnb) ?_; simp [argsLe, aLe, csLe, cLe]) | (refine CallOK.le (hcn) ?_; simp [argsLe, aLe, csLe, cLe])))); (focus rfl)) | refine zab ?_ | refine zad (fun hb => ?_) (fun hb => ?_) | (refine And.intro ?_ ?_; focus ((try with_reducible refine zal ?_); first | (with_reducible rfl) | ((with_reducible first | refine zam ?_ | refine zaf ?_ | refine zac ?_); kernel_rfl) | (intros; omega) | (intro q p; rw [q, p]; rfl) | (intro q; rw [q]; rfl) | (intro q; simp only [Bool.and_eq_true, decide_eq_true_eq, beq_iff_eq] at q; omega) | (intros; simp_all; done) | (intros; simp [List.range, List.range.loop]; done) | (intros; simp_all [List.range, List.range.loop]; done))) | refine And.intro (fun hg => ?_) (fun hg => ?_) | (with_reducible refine zac ?_; kernel_rfl) | fail)
        refine zbb (mv := ?mv2) (lent := ?le2) 0 ?ha2 (hin) ?hb2 ?hc2
        case ha2 => (try simp only [pkS, TyB, zaC, implies_true, forall_const, Nat.reduceSub, Nat.reduceEqDiff, Nat.reduceAdd, Nat.reduceMul, Nat.reduceLeDiff, Nat.reduceLT, Nat.reduceBEq, reduceCtorEq]); exact rfl
        case hb2 => (try simp only [pkS, TyB, scM, implies_true, forall_const, Nat.reduceSub, Nat.reduceEqDiff, Nat.reduceAdd, Nat.reduceMul, Nat.reduceLeDiff, Nat.reduceLT, Nat.reduceBEq, reduceCtorEq]); repeat' (first | rfl | trivial | omega | with_reducible refine And.intro ?_ ?_)
        show aops _ _ _ _ _ _ _ _
        repeat' (first | (with_reducible first | refine zaa _ _ ?_ | refine zah ?_ | refine zai ?_) | rw [zae] | simp only [pkS, TyB, hat, pkY, Int.reduceEq, bne_self_eq_false, Int.reduceBEq, Int.reduceBNe, implies_true, forall_const, Nat.reduceSub, Nat.reduceEqDiff, Nat.reduceAdd, Nat.reduceMul, Nat.reduceLeDiff, Nat.reduceLT, Nat.reduceBEq, reduceCtorEq] | refine zab ?_ | refine zad (fun hb => ?_) (fun hb => ?_) | (refine And.intro ?_ ?_; focus ((try with_reducible refine zal ?_); first | (with_reducible rfl) | ((with_reducible first | refine zam ?_ | refine zaf ?_ | refine zac ?_); kernel_rfl) | (intros; omega) | (intro q p; rw [q, p]; rfl) | (intro q; rw [q]; rfl) | (intro q; simp only [Bool.and_eq_true, decide_eq_true_eq, beq_iff_eq] at q; omega) | (intros; simp_all; done) | (intros; simp [List.range, List.range.loop]; done) | (intros; simp_all [List.range, List.range.loop]; done))) | refine And.intro (fun hg => ?_) (fun hg => ?_) | (with_reducible refine zac ?_; kernel_rfl) | fail)
        simp [rfs2, roLe]
    · rw [if_pos rfl]
      rcases hd with hat | ⟨n1, n2, n3, q, hat⟩
      · repeat' (first | (with_reducible first | refine zaa _ _ ?_ | refine zah ?_ | refine zai ?_) | rw [zae] | simp only [pkS, TyB, zaB, List.drop_nil, hat, e1, e2, e3, e4, e5, pkY, Int.reduceEq, bne_self_eq_false, Int.reduceBEq, Int.reduceBNe, implies_true, forall_const, Nat.reduceSub, Nat.reduceEqDiff, Nat.reduceAdd, Nat.reduceMul, Nat.reduceLeDiff, Nat.reduceLT, Nat.reduceBEq, reduceCtorEq] | ((try refine zak ?_); apply zan; (solve | exact (hp) | exact (hcl) | exact (hnb) | exact (hcn) | (refine CallOK.le (hp) ?_; simp [argsLe, aLe, csLe, cLe]) | (refine CallOK.le (hcl) ?_; simp [argsLe, aLe, csLe, cLe]) | (refine CallOK.le (hnb) ?_; simp [argsLe, aLe, csLe, cLe]) | (refine CallOK.le (hcn) ?_; simp [argsLe, aLe, csLe, cLe]))) | (apply zaj; (focus (intro _; (solve | exact (hp) | exact (hcl) | exact (hnb) | exact (hcn) | (refine CallOK.le (hp) ?_; simp [argsLe, aLe, csLe, cLe]) | (refine CallOK.le (hcl) ?_; simp [argsLe, aLe, csLe, cLe]) | (refine CallOK.le (hnb) ?_; simp [argsLe, aLe, csLe, cLe]) | (refine CallOK.le (hcn) ?_; simp [argsLe, aLe, csLe, cLe])))); (focus rfl)) | refine zab ?_ | refine zad (fun hb => ?_) (fun hb => ?_) | (refine And.intro ?_ ?_; focus ((try with_reducible refine zal ?_); first | (with_reducible rfl) | ((with_reducible first | refine zam ?_ | refine zaf ?_ | refine zac ?_); kernel_rfl) | (intros; omega) | (intro q p; rw [q, p]; rfl) | (intro q; rw [q]; rfl) | (intro q; simp only [Bool.and_eq_true, decide_eq_true_eq, beq_iff_eq] at q; omega) | (intros; simp_all; done) | (intros; simp [List.range, List.range.loop]; done) | (intros; simp_all [List.range, List.range.loop]; done))) | refine And.intro (fun hg => ?_) (fun hg => ?_) | (with_reducible refine zac ?_; kernel_rfl) | fail)
        simp [rfs2, roLe]
      · repeat' (first | (with_reducible first | refine zaa _ _ ?_ | refine zah ?_ | refine zai ?_) | rw [zae] | simp only [pkS, TyB, zaB, hat, e1, e2, e3, e4, e5, pkY, Int.reduceEq, bne_self_eq_false, Int.reduceBEq, Int.reduceBNe, implies_true, forall_const, Nat.reduceSub, Nat.reduceEqDiff, Nat.reduceAdd, Nat.reduceMul, Nat.reduceLeDiff, Nat.reduceLT, Nat.reduceBEq, reduceCtorEq] | ((try refine zak ?_); apply zan; (solve | exact (hp) | exact (hcl) | exact (hnb) | exact (hcn) | (refine CallOK.le (hp) ?_; simp [argsLe, aLe, csLe, cLe]) | (refine CallOK.le (hcl) ?_; simp [argsLe, aLe, csLe, cLe]) | (refine CallOK.le (hnb) ?_; simp [argsLe, aLe, csLe, cLe]) | (refine CallOK.le (hcn) ?_; simp [argsLe, aLe, csLe, cLe]))) | (apply zaj; (focus (intro _; (solve | exact (hp) | exact (hcl) | exact (hnb) | exact (hcn) | (refine CallOK.le (hp) ?_; simp [argsLe, aLe, csLe, cLe]) | (refine CallOK.le (hcl) ?_; simp [argsLe, aLe, csLe, cLe]) | (refine CallOK.le (hnb) ?_; simp [argsLe, aLe, csLe, cLe]) | (refine CallOK.le (hcn) ?_; simp [argsLe, aLe, csLe, cLe])))); (focus rfl)) | refine zab ?_ | refine zad (fun hb => ?_) (fun hb => ?_) | (refine And.intro ?_ ?_; focus ((try with_reducible refine zal ?_); first | (with_reducible rfl) | ((with_reducible first | refine zam ?_ | refine zaf ?_ | refine zac ?_); kernel_rfl) | (intros; omega) | (intro q p; rw [q, p]; rfl) | (intro q; rw [q]; rfl) | (intro q; simp only [Bool.and_eq_true, decide_eq_true_eq, beq_iff_eq] at q; omega) | (intros; simp_all; done) | (intros; simp [List.range, List.range.loop]; done) | (intros; simp_all [List.range, List.range.loop]; done))) | refine And.intro (fun hg => ?_) (fun hg => ?_) | (with_reducible refine zac ?_; kernel_rfl) | fail)
        simp [rfs2, roLe]
  · rw [if_pos rfl]
    rcases hd with hat | ⟨n1, n2, n3, q, hat⟩
    · repeat' (first | (with_reducible first | refine zaa _ _ ?_ | refine zah ?_ | refine zai ?_) | rw [zae] | simp only [pkS, TyB, zaB, List.drop_nil, hat, e1, e2, e3, e4, pkY, Int.reduceEq, bne_self_eq_false, Int.reduceBEq, Int.reduceBNe, implies_true, forall_const, Nat.reduceSub, Nat.reduceEqDiff, Nat.reduceAdd, Nat.reduceMul, Nat.reduceLeDiff, Nat.reduceLT, Nat.reduceBEq, reduceCtorEq] | ((try refine zak ?_); apply zan; (solve | exact (hp) | exact (hcl) | exact (hnb) | exact (hcn) | (refine CallOK.le (hp) ?_; simp [argsLe, aLe, csLe, cLe]) | (refine CallOK.le (hcl) ?_; simp [argsLe, aLe, csLe, cLe]) | (refine CallOK.le (hnb) ?_; simp [argsLe, aLe, csLe, cLe]) | (refine CallOK.le (hcn) ?_; simp [argsLe, aLe, csLe, cLe]))) | (apply zaj; (focus (intro _; (solve | exact (hp) | exact (hcl) | exact (hnb) | exact (hcn) | (refine CallOK.le (hp) ?_; simp [argsLe, aLe, csLe, cLe]) | (refine CallOK.le (hcl) ?_; simp [argsLe, aLe, csLe, cLe]) | (refine CallOK.le (hnb) ?_; simp [argsLe, aLe, csLe, cLe]) | (refine CallOK.le (hcn) ?_; simp [argsLe, aLe, csLe, cLe])))); (focus rfl)) | refine zab ?_ | refine zad (fun hb => ?_) (fun hb => ?_) | (refine And.intro ?_ ?_; focus ((try with_reducible refine zal ?_); first | (with_reducible rfl) | ((with_reducible first | refine zam ?_ | refine zaf ?_ | refine zac ?_); kernel_rfl) | (intros; omega) | (intro q p; rw [q, p]; rfl) | (intro q; rw [q]; rfl) | (intro q; simp only [Bool.and_eq_true, decide_eq_true_eq, beq_iff_eq] at q; omega) | (intros; simp_all; done) | (intros; simp [List.range, List.range.loop]; done) | (intros; simp_all [List.range, List.range.loop]; done))) | refine And.intro (fun hg => ?_) (fun hg => ?_) | (with_reducible refine zac ?_; kernel_rfl) | fail)
      simp [rfs2, roLe]
    · repeat' (first | (with_reducible first | refine zaa _ _ ?_ | refine zah ?_ | refine zai ?_) | rw [zae] | simp only [pkS, TyB, zaB, hat, e1, e2, e3, e4, pkY, Int.reduceEq, bne_self_eq_false, Int.reduceBEq, Int.reduceBNe, implies_true, forall_const, Nat.reduceSub, Nat.reduceEqDiff, Nat.reduceAdd, Nat.reduceMul, Nat.reduceLeDiff, Nat.reduceLT, Nat.reduceBEq, reduceCtorEq] | ((try refine zak ?_); apply zan; (solve | exact (hp) | exact (hcl) | exact (hnb) | exact (hcn) | (refine CallOK.le (hp) ?_; simp [argsLe, aLe, csLe, cLe]) | (refine CallOK.le (hcl) ?_; simp [argsLe, aLe, csLe, cLe]) | (refine CallOK.le (hnb) ?_; simp [argsLe, aLe, csLe, cLe]) | (refine CallOK.le (hcn) ?_; simp [argsLe, aLe, csLe, cLe]))) | (apply zaj; (focus (intro _; (solve | exact (hp) | exact (hcl) | exact (hnb) | exact (hcn) | (refine CallOK.le (hp) ?_; simp [argsLe, aLe, csLe, cLe]) | (refine CallOK.le (hcl) ?_; simp [argsLe, aLe, csLe, cLe]) | (refine CallOK.le (hnb) ?_; simp [argsLe, aLe, csLe, cLe]) | (refine CallOK.le (hcn) ?_; simp [argsLe, aLe, csLe, cLe])))); (focus rfl)) | refine zab ?_ | refine zad (fun hb => ?_) (fun hb => ?_) | (refine And.intro ?_ ?_; focus ((try with_reducible refine zal ?_); first | (with_reducible rfl) | ((with_reducible first | refine zam ?_ | refine zaf ?_ | refine zac ?_); kernel_rfl) | (intros; omega) | (intro q p; rw [q, p]; rfl) | (intro q; rw [q]; rfl) | (intro q; simp only [Bool.and_eq_true, decide_eq_true_eq, beq_iff_eq] at q; omega) | (intros; simp_all; done) | (intros; simp [List.range, List.range.loop]; done) | (intros; simp_all [List.range, List.range.loop]; done))) | refine And.intro (fun hg => ?_) (fun hg => ?_) | (with_reducible refine zac ?_; kernel_rfl) | fail)
      simp [rfs2, roLe]
theorem renew_ok (l : List Sess) (hs : SS l) (hl : l.length < 2 ^ 30) (c now : Int) (hn : 0 ≤ now ∧ now ≤ High) (hf : (findS l c).isSome = true) : CallOK Try.prog 45 [.f (al l.length (sessE l)), .f (ai c), .f (ai now)]
    (fun r o => r = [.one (.own 3 (renewP l c now).1.length (sessE (renewP l c now).1) false), ri (renewP l c now).2] ∧ o = []) := by
  refine CallOK.nil ?_
  refine zaq zaG mixed (T := Ty) (n := 39) Try.func45 (c := Try.f45.body.getD .skip) rfl Try.results45 Try.ntmps45 Try.call45 ?_
  simp only [Try.f45, Option.getD]
  have hp := zeR l hs (by omega) c
  have hcn := zdR l.length (sessE l) zaB (by omega)
  obtain ⟨x, hx⟩ := Option.isSome_iff_exists.1 hf
  obtain ⟨⟨hi, he⟩, hc⟩ := zdC hs hx
  rw [hf] at hp
  have e2 : decide (now < 0) = false := by simp; omega
  have e3 : decide (now > 2305843009213693952) = false := by have : High = 2305843009213693952 := rfl; simp; omega
  have hat := zbo hi
  rw [he] at hat
  simp only [List.cons_append, List.nil_append] at hat
  have hat2 : (sessE l).drop (posS l c * 3 + 2) = iD x.renewed :: sessE (l.drop (posS l c + 1)) := by rw [← List.drop_drop, hat]; rfl
  have hset := zcC Sess.enc 3 (fun _ => rfl) hi (k := 2) (by decide) (iD (max x.renewed now)) ⟨x.client, x.num, max x.renewed now⟩ (by rw [he]; rfl)
  have hr : renewP l c now = (l.set (posS l c) ⟨x.client, x.num, max x.renewed now⟩, 0) := by
    unfold renewP
    rw [if_neg (by simp; omega), hx]
  rw [hr]
  repeat' (first | (with_reducible first | refine zaa _ _ ?_ | refine zah ?_ | refine zai ?_) | rw [zae] | simp only [pkS, TyB, zaB, e2, e3, hat2, hset, ← List.map_drop, List.map_cons, pkY, Int.reduceEq, bne_self_eq_false, Int.reduceBEq, Int.reduceBNe, implies_true, forall_const, Nat.reduceSub, Nat.reduceEqDiff, Nat.reduceAdd, Nat.reduceMul, Nat.reduceLeDiff, Nat.reduceLT, Nat.reduceBEq, reduceCtorEq] | ((try refine zak ?_); apply zan; (solve | exact (hp) | exact (hcn) | (refine CallOK.le (hp) ?_; simp [argsLe, aLe, csLe, cLe]) | (refine CallOK.le (hcn) ?_; simp [argsLe, aLe, csLe, cLe]))) | (apply zaj; (focus (intro _; (solve | exact (hp) | exact (hcn) | (refine CallOK.le (hp) ?_; simp [argsLe, aLe, csLe, cLe]) | (refine CallOK.le (hcn) ?_; simp [argsLe, aLe, csLe, cLe])))); (focus rfl)) | refine zab ?_ | refine zad (fun hb => ?_) (fun hb => ?_) | (refine And.intro ?_ ?_; focus ((try with_reducible refine zal ?_); first | (with_reducible rfl) | ((with_reducible first | refine zam ?_ | refine zaf ?_ | refine zac ?_); kernel_rfl) | (intros; omega) | (intro q p; rw [q, p]; rfl) | (intro q; rw [q]; rfl) | (intro q; simp only [Bool.and_eq_true, decide_eq_true_eq, beq_iff_eq] at q; omega) | (intros; simp_all; done) | (intros; simp [List.range, List.range.loop]; done) | (intros; simp_all [List.range, List.range.loop]; done))) | refine And.intro (fun hg => ?_) (fun hg => ?_) | (with_reducible refine zac ?_; kernel_rfl) | fail)
  simp [rfs2, roLe]
theorem zg0 (l : List Sess) (hl : l.length < 2 ^ 30) : CallOK Try.prog 26 [.f (al l.length (sessE l))] (fun r o => r = [rb (sessB l)] ∧ o = []) := by
  refine zaq zaG mixed (T := Ty) (n := 61) Try.func26 (c := Try.f26.body.getD .skip) rfl Try.results26 Try.ntmps26 Try.call26 ?_
  simp only [Try.f26, Option.getD]
  cases h5 : decide ((l.length : Int) > 5)
  · have hs : sessB l = checkP (sessQ l) 0 l := by rw [sessB, h5]; rfl
    rw [hs]
    repeat' (first | (with_reducible first | refine zaa _ _ ?_ | refine zah ?_ | refine zai ?_) | rw [zae] | simp only [pkS, TyB, h5, zaB, pkY, Int.reduceEq, bne_self_eq_false, Int.reduceBEq, Int.reduceBNe, implies_true, forall_const, Nat.reduceSub, Nat.reduceEqDiff, Nat.reduceAdd, Nat.reduceMul, Nat.reduceLeDiff, Nat.reduceLT, Nat.reduceBEq, reduceCtorEq] | refine zab ?_ | refine zad (fun hb => ?_) (fun hb => ?_) | (refine And.intro ?_ ?_; focus ((try with_reducible refine zal ?_); first | (with_reducible rfl) | ((with_reducible first | refine zam ?_ | refine zaf ?_ | refine zac ?_); kernel_rfl) | (intros; omega) | (intro q p; rw [q, p]; rfl) | (intro q; rw [q]; rfl) | (intro q; simp only [Bool.and_eq_true, decide_eq_true_eq, beq_iff_eq] at q; omega) | (intros; simp_all; done) | (intros; simp [List.range, List.range.loop]; done) | (intros; simp_all [List.range, List.range.loop]; done))) | refine And.intro (fun hg => ?_) (fun hg => ?_) | (with_reducible refine zac ?_; kernel_rfl) | fail)
    refine zaH (τ := Nat) (fun i => ⟨[al l.length (sessE l), dd, dd, dd, dd, dd, dd, dd, al l.length (sessE l), ai l.length, ai i, dd, dd, dd, dd, dd, dd, dd, dd, dd, dd, dd, dd, dd, dd, dd, dd, dd, dd, dd, dd, dd, dd, dd, dd, dd, dd, dd, dd, dd, dd, dd, dd, dd, dd, dd, dd, dd, dd, dd, dd, dd, dd, dd, dd, dd, dd, dd, dd, dd, dd], [(4, ⟨2, []⟩)]⟩)
      (fun i => i ≤ l.length) (fun i => checkP (sessQ l) i (l.drop i)) (fun i => l.length - i) 0
      (Gh.canon [] [4] [] (by simp only [zar, zaz, zas, zat, zau, zav, List.set_cons_zero, List.set_cons_succ, and_true, true_and, Int.natCast_zero, Int.cast_ofNat_Int, D.v.injEq, Value.int.injEq]; try (repeat' (first | rfl | omega | with_reducible apply And.intro))) rfl rfl) (Nat.zero_le _) ?_
    intro i hi0 hF K hK
    simp only [List.drop_zero] at hF hK ⊢
    repeat (first | with_reducible refine zaa _ _ ?_ | with_reducible refine And.imp_right (zaa _ _) ?_ | with_reducible refine And.imp_right (And.imp_right (zaa _ _)) ?_ | with_reducible refine And.imp_right (And.imp_right (And.imp_right (zaa _ _))) ?_ | rw [zae] | simp only [pkS, TyB,  implies_true, forall_const, Nat.reduceSub, Nat.reduceEqDiff, Nat.reduceAdd, Nat.reduceMul, Nat.reduceLeDiff, Nat.reduceLT, Nat.reduceBEq, reduceCtorEq])
    refine zad (fun hlt => ?_) (fun hge => ?_)
    · have hi : i < l.length := by simpa using hlt
      have hat := zbo hi
      simp only [List.cons_append, List.nil_append] at hat
      have hw := zaI hi (by omega)
      rw [zaM hi] at hF
      have hcl := zdE l[i].client
      have hnb := zeQ (l.take i) (by rw [List.length_take]; omega) l[i].num
      have hlt2 : (l.take i).length = i := by rw [List.length_take]; omega
      have htk : (sessE l).take (i * 3) = sessE (l.take i) := zbN Sess.enc 3 (fun _ => rfl) (by omega)
      rw [hlt2] at hnb
      cases e0 : decide ((i : Int) > 0)
      · have hq : sessQ l i l[i] = (!(!(decide (l[i].client ≥ 0) && decide (l[i].client < 8)) || decide (l[i].num < 1) || decide (l[i].num > 2305843009213693952) || decide (l[i].renewed < 0) || decide (l[i].renewed > 2305843009213693952)) && !(numbered (l.take i) l[i].num)) := by
          unfold sessQ okSess isClient
          have : decide (i > 0) = false := by simpa using e0
          rw [this]
          simp only [Bool.not_or, Bool.not_not, Bool.false_and, Bool.false_or]
        have h0 : i = 0 := by simpa using e0
        have hp : (sessE l).drop ((IntKind.i64.wrap ((i : Int) - 1)).toNat * 3) = l[i].enc ++ sessE (l.drop (i + 1)) := by
          rw [← zbo hi, h0]; rfl
        repeat' (first | (with_reducible first | refine zaa _ _ ?_ | refine zah ?_ | refine zai ?_) | rw [zae] | simp only [pkS, TyB, hat, hp, htk, e0, List.cons_append, List.nil_append, zaB, pkY, Int.reduceEq, bne_self_eq_false, Int.reduceBEq, Int.reduceBNe, implies_true, forall_const, Nat.reduceSub, Nat.reduceEqDiff, Nat.reduceAdd, Nat.reduceMul, Nat.reduceLeDiff, Nat.reduceLT, Nat.reduceBEq, reduceCtorEq] | ((try refine zak ?_); apply zan; (solve | exact (hcl) | exact (hnb) | (refine CallOK.le (hcl) ?_; simp [argsLe, aLe, csLe, cLe]) | (refine CallOK.le (hnb) ?_; simp [argsLe, aLe, csLe, cLe]))) | (apply zaj; (focus (intro _; (solve | exact (hcl) | exact (hnb) | (refine CallOK.le (hcl) ?_; simp [argsLe, aLe, csLe, cLe]) | (refine CallOK.le (hnb) ?_; simp [argsLe, aLe, csLe, cLe])))); (focus rfl)) | refine zab ?_ | refine zad (fun hb => ?_) (fun hb => ?_) | (refine And.intro ?_ ?_; focus ((try with_reducible refine zal ?_); first | (with_reducible rfl) | ((with_reducible first | refine zam ?_ | refine zaf ?_ | refine zac ?_); kernel_rfl) | (intros; omega) | (intro q p; rw [q, p]; rfl) | (intro q; rw [q]; rfl) | (intro q; simp only [Bool.and_eq_true, decide_eq_true_eq, beq_iff_eq] at q; omega) | (intros; simp_all; done) | (intros; simp [List.range, List.range.loop]; done) | (intros; simp_all [List.range, List.range.loop]; done))) | refine And.intro (fun hg => ?_) (fun hg => ?_) | (with_reducible refine zac ?_; kernel_rfl) | fail)
        · rw [hq, hb, if_neg (by simp)] at hF
          rw [← hF]
        · rename_i ha
          rw [hq, ha, hb, if_neg (by simp)] at hF
          rw [← hF]
        · rename_i ha
          exact hK _ (i + 1) (Gh.canon [] [] [] (by simp only [hw, zar, zaz, zas, zat, zau, zav, List.set_cons_zero, List.set_cons_succ, and_true, true_and, Int.natCast_zero, Int.cast_ofNat_Int, D.v.injEq, Value.int.injEq]; try (repeat' (first | rfl | omega | with_reducible apply And.intro))) rfl rfl) hi (by rw [zaM hi, hq, ha, hb]; rfl) (by omega)
      · have hq : sessQ l i l[i] = (!(!(decide (l[i].client ≥ 0) && decide (l[i].client < 8)) || decide (l[i].num < 1) || decide (l[i].num > 2305843009213693952) || decide (l[i].renewed < 0) || decide (l[i].renewed > 2305843009213693952)) && !(decide ((l[i - 1]'(by omega)).client ≥ l[i].client) || numbered (l.take i) l[i].num)) := by
          unfold sessQ okSess isClient prevS
          have : decide (i > 0) = true := by simpa using e0
          rw [this, List.getElem?_eq_getElem (by omega)]
          simp only [Bool.not_or, Bool.not_not, Bool.true_and, Option.map_some, Option.getD_some]
        have h0 : 0 < i := by simpa using e0
        have hp := zbo (show i - 1 < l.length by omega)
        have hw1 : IntKind.i64.wrap ((i : Int) - 1) = ((i - 1 : Nat) : Int) := by rw [wrap64 (by omega) (by omega)]; omega
        repeat' (first | (with_reducible first | refine zaa _ _ ?_ | refine zah ?_ | refine zai ?_) | rw [zae] | simp only [pkS, TyB, hat, hp, hw1, htk, e0, List.cons_append, List.nil_append, zaB, pkY, Int.reduceEq, bne_self_eq_false, Int.reduceBEq, Int.reduceBNe, implies_true, forall_const, Nat.reduceSub, Nat.reduceEqDiff, Nat.reduceAdd, Nat.reduceMul, Nat.reduceLeDiff, Nat.reduceLT, Nat.reduceBEq, reduceCtorEq] | ((try refine zak ?_); apply zan; (solve | exact (hcl) | exact (hnb) | (refine CallOK.le (hcl) ?_; simp [argsLe, aLe, csLe, cLe]) | (refine CallOK.le (hnb) ?_; simp [argsLe, aLe, csLe, cLe]))) | (apply zaj; (focus (intro _; (solve | exact (hcl) | exact (hnb) | (refine CallOK.le (hcl) ?_; simp [argsLe, aLe, csLe, cLe]) | (refine CallOK.le (hnb) ?_; simp [argsLe, aLe, csLe, cLe])))); (focus rfl)) | refine zab ?_ | refine zad (fun hb => ?_) (fun hb => ?_) | (refine And.intro ?_ ?_; focus ((try with_reducible refine zal ?_); first | (with_reducible rfl) | ((with_reducible first | refine zam ?_ | refine zaf ?_ | refine zac ?_); kernel_rfl) | (intros; omega) | (intro q p; rw [q, p]; rfl) | (intro q; rw [q]; rfl) | (intro q; simp only [Bool.and_eq_true, decide_eq_true_eq, beq_iff_eq] at q; omega) | (intros; simp_all; done) | (intros; simp [List.range, List.range.loop]; done) | (intros; simp_all [List.range, List.range.loop]; done))) | refine And.intro (fun hg => ?_) (fun hg => ?_) | (with_reducible refine zac ?_; kernel_rfl) | fail)
        · rw [hq, hb, if_neg (by simp)] at hF
          rw [← hF]
        · rename_i ha
          rw [hq, ha, hb, if_neg (by simp)] at hF
          rw [← hF]
        · rename_i ha
          exact hK _ (i + 1) (Gh.canon [] [] [] (by simp only [hw, zar, zaz, zas, zat, zau, zav, List.set_cons_zero, List.set_cons_succ, and_true, true_and, Int.natCast_zero, Int.cast_ofNat_Int, D.v.injEq, Value.int.injEq]; try (repeat' (first | rfl | omega | with_reducible apply And.intro))) rfl rfl) hi (by rw [zaM hi, hq, ha, hb]; rfl) (by omega)
    · have hi : i = l.length := by
        have : ¬ (i : Int) < l.length := by simpa using hge
        omega
      rw [zcd hi] at hF
      rw [← hF]
      repeat' (first | (with_reducible first | refine zaa _ _ ?_ | refine zah ?_ | refine zai ?_) | rw [zae] | simp only [pkS, TyB, pkY, Int.reduceEq, bne_self_eq_false, Int.reduceBEq, Int.reduceBNe, implies_true, forall_const, Nat.reduceSub, Nat.reduceEqDiff, Nat.reduceAdd, Nat.reduceMul, Nat.reduceLeDiff, Nat.reduceLT, Nat.reduceBEq, reduceCtorEq] | refine zab ?_ | refine zad (fun hb => ?_) (fun hb => ?_) | (refine And.intro ?_ ?_; focus ((try with_reducible refine zal ?_); first | (with_reducible rfl) | ((with_reducible first | refine zam ?_ | refine zaf ?_ | refine zac ?_); kernel_rfl) | (intros; omega) | (intro q p; rw [q, p]; rfl) | (intro q; rw [q]; rfl) | (intro q; simp only [Bool.and_eq_true, decide_eq_true_eq, beq_iff_eq] at q; omega) | (intros; simp_all; done) | (intros; simp [List.range, List.range.loop]; done) | (intros; simp_all [List.range, List.range.loop]; done))) | refine And.intro (fun hg => ?_) (fun hg => ?_) | (with_reducible refine zac ?_; kernel_rfl) | fail)
  · have hs : sessB l = false := by rw [sessB, h5]; rfl
    rw [hs]
    repeat' (first | (with_reducible first | refine zaa _ _ ?_ | refine zah ?_ | refine zai ?_) | rw [zae] | simp only [pkS, TyB, h5, zaB, pkY, Int.reduceEq, bne_self_eq_false, Int.reduceBEq, Int.reduceBNe, implies_true, forall_const, Nat.reduceSub, Nat.reduceEqDiff, Nat.reduceAdd, Nat.reduceMul, Nat.reduceLeDiff, Nat.reduceLT, Nat.reduceBEq, reduceCtorEq] | refine zab ?_ | refine zad (fun hb => ?_) (fun hb => ?_) | (refine And.intro ?_ ?_; focus ((try with_reducible refine zal ?_); first | (with_reducible rfl) | ((with_reducible first | refine zam ?_ | refine zaf ?_ | refine zac ?_); kernel_rfl) | (intros; omega) | (intro q p; rw [q, p]; rfl) | (intro q; rw [q]; rfl) | (intro q; simp only [Bool.and_eq_true, decide_eq_true_eq, beq_iff_eq] at q; omega) | (intros; simp_all; done) | (intros; simp [List.range, List.range.loop]; done) | (intros; simp_all [List.range, List.range.loop]; done))) | refine And.intro (fun hg => ?_) (fun hg => ?_) | (with_reducible refine zac ?_; kernel_rfl) | fail)
end Go.Proofs.Ytniafckaafcpbaa
