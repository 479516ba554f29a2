import Derived.Test.YtniafckaafcpbaaM
import Derived.Test.YtniafckaafcpbaaK7
namespace Go.Proofs.Ytniafckaafcpbaa
open Go.Pk
set_option maxRecDepth 100000
set_option linter.unusedSimpArgs false
set_option linter.unusedVariables false
def cmpB (a b : ByteArray) : Int := Lib.compareBytes a.data.toList b.data.toList
theorem cmpB_lt {a b : ByteArray} : cmpB a b < 0 ↔ bLess a b = true := by
  unfold cmpB bLess
  rw [zbw, zbY, zbY]
  split
  · simp [*]
  · split <;> simp [*]
theorem cmpB_zero {a b : ByteArray} : (cmpB a b == 0) = (a.toList == b.toList) := by
  unfold cmpB
  rw [zbw, ← zbY, ← zbY, Bool.eq_iff_iff]
  simp only [beq_iff_eq]
  constructor
  · intro h
    split at h
    · cases h
    · split at h
      · cases h
      · rename_i h1 h2
        exact bl_tri (by simpa using h1) (by simpa using h2)
  · intro h
    rw [h, zh8]; simp
theorem zdH (a b : ByteArray) : CallOK Try.prog 100 [.f (ast a), .f (ast b)] (fun r o => r = [ri (cmpB a b)] ∧ o = []) := by
  refine zaq zaG mixed (T := Ty) (n := 8) Try.func100 (c := Try.f100.body.getD .skip) rfl Try.results100 Try.ntmps100 Try.call100 ?_
  simp only [Try.f100, Option.getD]
  repeat' (first | (with_reducible first | refine zaa _ _ ?_ | refine zah ?_ | refine zai ?_) | rw [zae] | simp only [pkS, TyB, pkY, Int.reduceEq, bne_self_eq_false, Int.reduceBEq, Int.reduceBNe, implies_true, forall_const, Nat.reduceSub, Nat.reduceEqDiff, Nat.reduceAdd, Nat.reduceMul, Nat.reduceLeDiff, Nat.reduceLT, Nat.reduceBEq, reduceCtorEq] | refine zab ?_ | refine zad (fun hb => ?_) (fun hb => ?_) | (refine And.intro ?_ ?_; focus ((try with_reducible refine zal ?_); first | (with_reducible rfl) | ((with_reducible first | refine zam ?_ | refine zaf ?_ | refine zac ?_); kernel_rfl) | (intros; omega) | (intro q p; rw [q, p]; rfl) | (intro q; rw [q]; rfl) | (intro q; simp only [Bool.and_eq_true, decide_eq_true_eq, beq_iff_eq] at q; omega) | (intros; simp_all; done) | (intros; simp [List.range, List.range.loop]; done) | (intros; simp_all [List.range, List.range.loop]; done))) | refine And.intro (fun hg => ?_) (fun hg => ?_) | (with_reducible refine zac ?_; kernel_rfl) | fail)
  refine zd7 (cmpstr_ok Try.func104 (by kernel_rfl) (by kernel_rfl) (by kernel_rfl) (by kernel_rfl) rfl rfl rfl rfl) ?_
  repeat' (first | (with_reducible first | refine zaa _ _ ?_ | refine zah ?_ | refine zai ?_) | rw [zae] | simp only [pkS, TyB, pkY, Int.reduceEq, bne_self_eq_false, Int.reduceBEq, Int.reduceBNe, implies_true, forall_const, Nat.reduceSub, Nat.reduceEqDiff, Nat.reduceAdd, Nat.reduceMul, Nat.reduceLeDiff, Nat.reduceLT, Nat.reduceBEq, reduceCtorEq] | refine zab ?_ | refine zad (fun hb => ?_) (fun hb => ?_) | (refine And.intro ?_ ?_; focus ((try with_reducible refine zal ?_); first | (with_reducible rfl) | ((with_reducible first | refine zam ?_ | refine zaf ?_ | refine zac ?_); kernel_rfl) | (intros; omega) | (intro q p; rw [q, p]; rfl) | (intro q; rw [q]; rfl) | (intro q; simp only [Bool.and_eq_true, decide_eq_true_eq, beq_iff_eq] at q; omega) | (intros; simp_all; done) | (intros; simp [List.range, List.range.loop]; done) | (intros; simp_all [List.range, List.range.loop]; done))) | refine And.intro (fun hg => ?_) (fun hg => ?_) | (with_reducible refine zac ?_; kernel_rfl) | fail)
  rfl
theorem zbJ (a b : ByteArray) : CallOK Try.prog 92 [.f (ast a), .f (ast b)] (fun r o => r = [ri (cmpB a b)] ∧ o = []) := by
  refine zaq zaG mixed (T := Ty) (n := 8) Try.func92 (c := Try.f92.body.getD .skip) rfl Try.results92 Try.ntmps92 Try.call92 ?_
  simp only [Try.f92, Option.getD]
  repeat' (first | (with_reducible first | refine zaa _ _ ?_ | refine zah ?_ | refine zai ?_) | rw [zae] | simp only [pkS, TyB, pkY, Int.reduceEq, bne_self_eq_false, Int.reduceBEq, Int.reduceBNe, implies_true, forall_const, Nat.reduceSub, Nat.reduceEqDiff, Nat.reduceAdd, Nat.reduceMul, Nat.reduceLeDiff, Nat.reduceLT, Nat.reduceBEq, reduceCtorEq] | ((try refine zak ?_); apply zan; (solve | exact (zdH a b) | (refine CallOK.le (zdH a b) ?_; simp [argsLe, aLe, csLe, cLe]))) | (apply zaj; (focus (intro _; (solve | exact (zdH a b) | (refine CallOK.le (zdH a b) ?_; simp [argsLe, aLe, csLe, cLe])))); (focus rfl)) | refine zab ?_ | refine zad (fun hb => ?_) (fun hb => ?_) | (refine And.intro ?_ ?_; focus ((try with_reducible refine zal ?_); first | (with_reducible rfl) | ((with_reducible first | refine zam ?_ | refine zaf ?_ | refine zac ?_); kernel_rfl) | (intros; omega) | (intro q p; rw [q, p]; rfl) | (intro q; rw [q]; rfl) | (intro q; simp only [Bool.and_eq_true, decide_eq_true_eq, beq_iff_eq] at q; omega) | (intros; simp_all; done) | (intros; simp [List.range, List.range.loop]; done) | (intros; simp_all [List.range, List.range.loop]; done))) | refine And.intro (fun hg => ?_) (fun hg => ?_) | (with_reducible refine zac ?_; kernel_rfl) | fail)
theorem lplace1_ok (k : Lk) (s : ByteArray) : CallOK Try.prog 91 [.f (lockAV k), .f (ast s)] (fun r o => r = [ri (cmpB k.name s)] ∧ o = []) := by
  refine zaq zaG mixed (T := Ty) (n := 9) Try.func91 (c := Try.f91.body.getD .skip) rfl Try.results91 Try.ntmps91 Try.call91 ?_
  simp only [Try.f91, Option.getD]
  repeat' (first | (with_reducible first | refine zaa _ _ ?_ | refine zah ?_ | refine zai ?_) | rw [zae] | simp only [pkS, TyB, pkY, Int.reduceEq, bne_self_eq_false, Int.reduceBEq, Int.reduceBNe, implies_true, forall_const, Nat.reduceSub, Nat.reduceEqDiff, Nat.reduceAdd, Nat.reduceMul, Nat.reduceLeDiff, Nat.reduceLT, Nat.reduceBEq, reduceCtorEq] | ((try refine zak ?_); apply zan; (solve | exact (zbJ k.name s) | (refine CallOK.le (zbJ k.name s) ?_; simp [argsLe, aLe, csLe, cLe]))) | (apply zaj; (focus (intro _; (solve | exact (zbJ k.name s) | (refine CallOK.le (zbJ k.name s) ?_; simp [argsLe, aLe, csLe, cLe])))); (focus rfl)) | refine zab ?_ | refine zad (fun hb => ?_) (fun hb => ?_) | (refine And.intro ?_ ?_; focus ((try with_reducible refine zal ?_); first | (with_reducible rfl) | ((with_reducible first | refine zam ?_ | refine zaf ?_ | refine zac ?_); kernel_rfl) | (intros; omega) | (intro q p; rw [q, p]; rfl) | (intro q; rw [q]; rfl) | (intro q; simp only [Bool.and_eq_true, decide_eq_true_eq, beq_iff_eq] at q; omega) | (intros; simp_all; done) | (intros; simp [List.range, List.range.loop]; done) | (intros; simp_all [List.range, List.range.loop]; done))) | refine And.intro (fun hg => ?_) (fun hg => ?_) | (with_reducible refine zac ?_; kernel_rfl) | fail)
theorem zgW (l : List Lk) (hs : SL l) (hl : l.length < 2 ^ 62) (s : ByteArray) : CallOK Try.prog 70 [.f (al l.length (locksE l)), .f (ast s)] (fun r o => r = [ri (posL l s), rb (findL l s).isSome] ∧ o = []) := by
  refine zaq zaG mixed (T := Ty) (n := 11) Try.func70 (c := Try.f70.body.getD .skip) rfl Try.results70 Try.ntmps70 Try.call70 ?_
  simp only [Try.f70, Option.getD]
  have h := zgU l hl s (fun x => cmpB x.name s) 91 (posL l s) zbt
    (fun j hj h => cmpB_lt.2 (zeK hj h))
    (fun j hj h => by
      have h1 := zeL hj (zht hs s) h
      have h2 := @cmpB_lt l[j].name s
      rw [h1] at h2
      have h3 : ¬ cmpB l[j].name s < 0 := by rw [h2]; simp
      omega) (fun x _ => lplace1_ok x s)
  have e : ((l[posL l s]?.map fun x => cmpB x.name s == 0).getD false) = (findL l s).isSome := by
    rw [zgP hs, zfX]
    simp only [cmpB_zero]
    rfl
  rw [e] at h
  repeat' (first | (with_reducible first | refine zaa _ _ ?_ | refine zah ?_ | refine zai ?_) | rw [zae] | simp only [pkS, TyB, pkY, Int.reduceEq, bne_self_eq_false, Int.reduceBEq, Int.reduceBNe, implies_true, forall_const, Nat.reduceSub, Nat.reduceEqDiff, Nat.reduceAdd, Nat.reduceMul, Nat.reduceLeDiff, Nat.reduceLT, Nat.reduceBEq, reduceCtorEq] | ((try refine zak ?_); apply zan; (solve | exact (h) | (refine CallOK.le (h) ?_; simp [argsLe, aLe, csLe, cLe]))) | (apply zaj; (focus (intro _; (solve | exact (h) | (refine CallOK.le (h) ?_; simp [argsLe, aLe, csLe, cLe])))); (focus rfl)) | refine zab ?_ | refine zad (fun hb => ?_) (fun hb => ?_) | (refine And.intro ?_ ?_; focus ((try with_reducible refine zal ?_); first | (with_reducible rfl) | ((with_reducible first | refine zam ?_ | refine zaf ?_ | refine zac ?_); kernel_rfl) | (intros; omega) | (intro q p; rw [q, p]; rfl) | (intro q; rw [q]; rfl) | (intro q; simp only [Bool.and_eq_true, decide_eq_true_eq, beq_iff_eq] at q; omega) | (intros; simp_all; done) | (intros; simp [List.range, List.range.loop]; done) | (intros; simp_all [List.range, List.range.loop]; done))) | refine And.intro (fun hg => ?_) (fun hg => ?_) | (with_reducible refine zac ?_; kernel_rfl) | fail)
theorem zdT (l : List Lk) (hl : l.length < 2 ^ 30) (hll : ∀ k ∈ l, k.line.length < 2 ^ 30) : CallOK Try.prog 59 [.f (al l.length (locksE l))] (fun r o => r = [.one (.own 4 l.length (locksE l) false)] ∧ o = []) := by
  refine zaq zaG mixed (T := Ty) (n := 24) Try.func59 (c := Try.f59.body.getD .skip) rfl Try.results59 Try.ntmps59 Try.call59 ?_
  simp only [Try.f59, Option.getD]
  have hcn := zfm l.length (locksE l) zax (by omega)
  repeat' (first | (with_reducible first | refine zaa _ _ ?_ | refine zah ?_ | refine zai ?_) | rw [zae] | simp only [pkS, TyB, zax, pkY, Int.reduceEq, bne_self_eq_false, Int.reduceBEq, Int.reduceBNe, implies_true, forall_const, Nat.reduceSub, Nat.reduceEqDiff, Nat.reduceAdd, Nat.reduceMul, Nat.reduceLeDiff, Nat.reduceLT, Nat.reduceBEq, reduceCtorEq] | ((try refine zak ?_); apply zan; (solve | exact (hcn) | (refine CallOK.le (hcn) ?_; simp [argsLe, aLe, csLe, cLe]))) | (apply zaj; (focus (intro _; (solve | exact (hcn) | (refine CallOK.le (hcn) ?_; simp [argsLe, aLe, csLe, cLe])))); (focus rfl)) | refine zab ?_ | refine zad (fun hb => ?_) (fun hb => ?_) | (refine And.intro ?_ ?_; focus ((try with_reducible refine zal ?_); first | (with_reducible rfl) | ((with_reducible first | refine zam ?_ | refine zaf ?_ | refine zac ?_); kernel_rfl) | (intros; omega) | (intro q p; rw [q, p]; rfl) | (intro q; rw [q]; rfl) | (intro q; simp only [Bool.and_eq_true, decide_eq_true_eq, beq_iff_eq] at q; omega) | (intros; simp_all; done) | (intros; simp [List.range, List.range.loop]; done) | (intros; simp_all [List.range, List.range.loop]; done))) | refine And.intro (fun hg => ?_) (fun hg => ?_) | (with_reducible refine zac ?_; kernel_rfl) | fail)
  refine zaH (τ := Nat) (fun i => ⟨[dd, dd, dd, .one (.own ⟨3, 1, 1⟩ 0 l.length), dd, dd, dd, dd, ai l.length, ai i, dd, dd, dd, dd, dd, dd, dd, dd, dd, dd, dd, dd, dd, dd], [(6, ⟨2, []⟩), (3, { next := 2, l := [none, some { e := 1, var := false, fz := false, sz := 4, cells := (locksE l).map C.d }] }), (19, ⟨2, []⟩)]⟩)
    (fun i => i ≤ l.length) (fun _ => ()) (fun i => l.length - i) 0
    (Gh.canon [3] [19] [] (by simp only [zar, zaz, zas, zat, zau, zav, List.set_cons_zero, List.set_cons_succ, and_true, true_and, Int.natCast_zero, Int.cast_ofNat_Int, D.v.injEq, Value.int.injEq]; try (repeat' (first | rfl | omega | with_reducible apply And.intro))) rfl rfl) (Nat.zero_le _) ?_
  intro i hi0 hF K hK
  repeat (first | with_reducible refine zaa _ _ ?_ | with_reducible refine And.imp_right (zaa _ _) ?_ | with_reducible refine And.imp_right (And.imp_right (zaa _ _)) ?_ | with_reducible refine And.imp_right (And.imp_right (And.imp_right (zaa _ _))) ?_ | rw [zae] | simp only [pkS, TyB,  implies_true, forall_const, Nat.reduceSub, Nat.reduceEqDiff, Nat.reduceAdd, Nat.reduceMul, Nat.reduceLeDiff, Nat.reduceLT, Nat.reduceBEq, reduceCtorEq])
  refine zad (fun hlt => ?_) (fun hge => ?_)
  · have hi : i < l.length := by simpa using hlt
    have hat := zaV hi
    have hat2 : (locksE l).drop (i * 4 + 3) = .sl l[i].line.length (intsE l[i].line) :: locksE (l.drop (i + 1)) := by rw [← List.drop_drop, hat]; rfl
    have hw := zaI hi (by omega)
    have hci := zcf l[i].line.length (intsE l[i].line) zaE (by have := hll _ (List.getElem_mem hi); omega)
    have hset := zcC Lk.enc 4 (fun _ => rfl) hi (k := 3) (by decide) (.sl l[i].line.length (intsE l[i].line)) l[i] rfl
    rw [List.set_getElem_self] at hset
    repeat' (first | (with_reducible first | refine zaa _ _ ?_ | refine zah ?_ | refine zai ?_) | rw [zae] | simp only [pkS, TyB, hat2, hset, ← List.map_drop, List.map_cons, zax, pkY, Int.reduceEq, bne_self_eq_false, Int.reduceBEq, Int.reduceBNe, implies_true, forall_const, Nat.reduceSub, Nat.reduceEqDiff, Nat.reduceAdd, Nat.reduceMul, Nat.reduceLeDiff, Nat.reduceLT, Nat.reduceBEq, reduceCtorEq] | ((try refine zak ?_); apply zan; (solve | exact (hci) | (refine CallOK.le (hci) ?_; simp [argsLe, aLe, csLe, cLe]))) | (apply zaj; (focus (intro _; (solve | exact (hci) | (refine CallOK.le (hci) ?_; simp [argsLe, aLe, csLe, cLe])))); (focus rfl)) | refine zab ?_ | refine zad (fun hb => ?_) (fun hb => ?_) | (refine And.intro ?_ ?_; focus ((try with_reducible refine zal ?_); first | (with_reducible rfl) | ((with_reducible first | refine zam ?_ | refine zaf ?_ | refine zac ?_); kernel_rfl) | (intros; omega) | (intro q p; rw [q, p]; rfl) | (intro q; rw [q]; rfl) | (intro q; simp only [Bool.and_eq_true, decide_eq_true_eq, beq_iff_eq] at q; omega) | (intros; simp_all; done) | (intros; simp [List.range, List.range.loop]; done) | (intros; simp_all [List.range, List.range.loop]; done))) | refine And.intro (fun hg => ?_) (fun hg => ?_) | (with_reducible refine zac ?_; kernel_rfl) | fail)
    exact hK _ (i + 1) (Gh.canon [3] [] [] (by simp only [hw, zar, zaz, zas, zat, zau, zav, List.set_cons_zero, List.set_cons_succ, and_true, true_and, Int.natCast_zero, Int.cast_ofNat_Int, D.v.injEq, Value.int.injEq]; try (repeat' (first | rfl | omega | with_reducible apply And.intro))) rfl rfl) hi rfl (by omega)
  · have hi : i = l.length := by
      have : ¬ (i : Int) < l.length := by simpa using hge
      omega
    repeat' (first | (with_reducible first | refine zaa _ _ ?_ | refine zah ?_ | refine zai ?_) | rw [zae] | simp only [pkS, TyB, pkY, Int.reduceEq, bne_self_eq_false, Int.reduceBEq, Int.reduceBNe, implies_true, forall_const, Nat.reduceSub, Nat.reduceEqDiff, Nat.reduceAdd, Nat.reduceMul, Nat.reduceLeDiff, Nat.reduceLT, Nat.reduceBEq, reduceCtorEq] | refine zab ?_ | refine zad (fun hb => ?_) (fun hb => ?_) | (refine And.intro ?_ ?_; focus ((try with_reducible refine zal ?_); first | (with_reducible rfl) | ((with_reducible first | refine zam ?_ | refine zaf ?_ | refine zac ?_); kernel_rfl) | (intros; omega) | (intro q p; rw [q, p]; rfl) | (intro q; rw [q]; rfl) | (intro q; simp only [Bool.and_eq_true, decide_eq_true_eq, beq_iff_eq] at q; omega) | (intros; simp_all; done) | (intros; simp [List.range, List.range.loop]; done) | (intros; simp_all [List.range, List.range.loop]; done))) | refine And.intro (fun hg => ?_) (fun hg => ?_) | (with_reducible refine zac ?_; kernel_rfl) | fail)
theorem next_ok (l : List Int) (hl : l.length < 2 ^ 30) : CallOK Try.prog 84 [.f (al l.length (intsE l))] (fun r o => r = [ri (l.headD 0), rowI l.tail, rb (!l.isEmpty)] ∧ o = []) := by
  refine CallOK.nil ?_
  refine zaq zaG mixed (T := Ty) (n := 14) Try.func84 (c := Try.f84.body.getD .skip) rfl Try.results84 Try.ntmps84 Try.call84 ?_
  simp only [Try.f84, Option.getD]
  cases l with
  | nil =>
    have h0 : (((0 : Nat) : Int) == 0) = true := rfl
    repeat' (first | (with_reducible first | refine zaa _ _ ?_ | refine zah ?_ | refine zai ?_) | rw [zae] | simp only [pkS, TyB, List.length_nil, h0, pkY, Int.reduceEq, bne_self_eq_false, Int.reduceBEq, Int.reduceBNe, implies_true, forall_const, Nat.reduceSub, Nat.reduceEqDiff, Nat.reduceAdd, Nat.reduceMul, Nat.reduceLeDiff, Nat.reduceLT, Nat.reduceBEq, reduceCtorEq] | refine zab ?_ | refine zad (fun hb => ?_) (fun hb => ?_) | (refine And.intro ?_ ?_; focus ((try with_reducible refine zal ?_); first | (with_reducible rfl) | ((with_reducible first | refine zam ?_ | refine zaf ?_ | refine zac ?_); kernel_rfl) | (intros; omega) | (intro q p; rw [q, p]; rfl) | (intro q; rw [q]; rfl) | (intro q; simp only [Bool.and_eq_true, decide_eq_true_eq, beq_iff_eq] at q; omega) | (intros; simp_all; done) | (intros; simp [List.range, List.range.loop]; done) | (intros; simp_all [List.range, List.range.loop]; done))) | refine And.intro (fun hg => ?_) (fun hg => ?_) | (with_reducible refine zac ?_; kernel_rfl) | fail)
    simp [rfs3, rowI, roLe]
  | cons c l =>
    have h0 : (((l.length + 1 : Nat) : Int) == 0) = false := by simp; omega
    have hcn := zcf l.length (intsE l) zaE (by simp at hl; omega)
    have hn : l.length + 1 - 1 = l.length := rfl
    repeat' (first | (with_reducible first | refine zaa _ _ ?_ | refine zah ?_ | refine zai ?_) | rw [zae] | simp only [pkS, TyB, List.length_cons, h0, hn, zaE, List.flatMap_cons, List.cons_append, List.nil_append, pkY, Int.reduceEq, bne_self_eq_false, Int.reduceBEq, Int.reduceBNe, implies_true, forall_const, Nat.reduceSub, Nat.reduceEqDiff, Nat.reduceAdd, Nat.reduceMul, Nat.reduceLeDiff, Nat.reduceLT, Nat.reduceBEq, reduceCtorEq] | ((try refine zak ?_); apply zan; (solve | exact (hcn) | (refine CallOK.le (hcn) ?_; simp [argsLe, aLe, csLe, cLe]))) | (apply zaj; (focus (intro _; (solve | exact (hcn) | (refine CallOK.le (hcn) ?_; simp [argsLe, aLe, csLe, cLe])))); (focus rfl)) | refine zab ?_ | refine zad (fun hb => ?_) (fun hb => ?_) | (refine And.intro ?_ ?_; focus ((try with_reducible refine zal ?_); first | (with_reducible rfl) | ((with_reducible first | refine zam ?_ | refine zaf ?_ | refine zac ?_); kernel_rfl) | (intros; omega) | (intro q p; rw [q, p]; rfl) | (intro q; rw [q]; rfl) | (intro q; simp only [Bool.and_eq_true, decide_eq_true_eq, beq_iff_eq] at q; omega) | (intros; simp_all; done) | (intros; simp [List.range, List.range.loop]; done) | (intros; simp_all [List.range, List.range.loop]; done))) | refine And.intro (fun hg => ?_) (fun hg => ?_) | (with_reducible refine zac ?_; kernel_rfl) | fail)
    simp [rfs3, rowI, roLe]
theorem zgX (l : List Int) (hl : l.length < 2 ^ 30) : CallOK Try.prog 56 [.f (al l.length (intsE l))] (fun r o => r = [rb (lineB l)] ∧ o = []) := by
  refine zaq zaG mixed (T := Ty) (n := 26) Try.func56 (c := Try.f56.body.getD .skip) rfl Try.results56 Try.ntmps56 Try.call56 ?_
  simp only [Try.f56, Option.getD]
  repeat' (first | (with_reducible first | refine zaa _ _ ?_ | refine zah ?_ | refine zai ?_) | rw [zae] | simp only [pkS, TyB, zaE, pkY, Int.reduceEq, bne_self_eq_false, Int.reduceBEq, Int.reduceBNe, implies_true, forall_const, Nat.reduceSub, Nat.reduceEqDiff, Nat.reduceAdd, Nat.reduceMul, Nat.reduceLeDiff, Nat.reduceLT, Nat.reduceBEq, reduceCtorEq] | refine zab ?_ | refine zad (fun hb => ?_) (fun hb => ?_) | (refine And.intro ?_ ?_; focus ((try with_reducible refine zal ?_); first | (with_reducible rfl) | ((with_reducible first | refine zam ?_ | refine zaf ?_ | refine zac ?_); kernel_rfl) | (intros; omega) | (intro q p; rw [q, p]; rfl) | (intro q; rw [q]; rfl) | (intro q; simp only [Bool.and_eq_true, decide_eq_true_eq, beq_iff_eq] at q; omega) | (intros; simp_all; done) | (intros; simp [List.range, List.range.loop]; done) | (intros; simp_all [List.range, List.range.loop]; done))) | refine And.intro (fun hg => ?_) (fun hg => ?_) | (with_reducible refine zac ?_; kernel_rfl) | fail)
  refine zaH (τ := Nat) (fun i => ⟨[al l.length (intsE l), dd, dd, dd, dd, al l.length (intsE l), ai l.length, ai i, dd, dd, dd, dd, dd, dd, dd, dd, dd, dd, dd, dd, dd, dd, dd, dd, dd, dd], []⟩)
    (fun i => i ≤ l.length) (fun i => checkP (lineQ l) i (l.drop i)) (fun i => l.length - i) 0
    (Gh.canon [] [] [] (by simp only [zar, zaz, zas, zat, zau, zav, List.set_cons_zero, List.set_cons_succ, and_true, true_and, Int.natCast_zero, Int.cast_ofNat_Int, D.v.injEq, Value.int.injEq]; try (repeat' (first | rfl | omega | with_reducible apply And.intro))) rfl rfl) (Nat.zero_le _) ?_
  intro i hi0 hF K hK
  rw [List.drop_zero] at hF
  repeat (first | with_reducible refine zaa _ _ ?_ | with_reducible refine And.imp_right (zaa _ _) ?_ | with_reducible refine And.imp_right (And.imp_right (zaa _ _)) ?_ | with_reducible refine And.imp_right (And.imp_right (And.imp_right (zaa _ _))) ?_ | rw [zae] | simp only [pkS, TyB,  implies_true, forall_const, Nat.reduceSub, Nat.reduceEqDiff, Nat.reduceAdd, Nat.reduceMul, Nat.reduceLeDiff, Nat.reduceLT, Nat.reduceBEq, reduceCtorEq])
  refine zad (fun hlt => ?_) (fun hge => ?_)
  · have hi : i < l.length := by simpa using hlt
    have hat := zbX hi
    have hw := zaI hi (by omega)
    rw [zaM hi] at hF
    have hcl := zbu l[i]
    have hlt2 : (l.take i).length = i := by rw [List.length_take]; omega
    have htk : (intsE l).take i = intsE (l.take i) := zgQ (by omega)
    have hco := zaF (l.take i) (by omega) l[i]
    rw [hlt2] at hco
    have hq : lineQ l i l[i] = !(!(decide (l[i] ≥ 0) && decide (l[i] < 8)) || (l.take i).any fun x => l[i] == x) := rfl
    repeat' (first | (with_reducible first | refine zaa _ _ ?_ | refine zah ?_ | refine zai ?_) | rw [zae] | simp only [pkS, TyB, hat, htk, List.cons_append, List.nil_append, zaE, pkY, Int.reduceEq, bne_self_eq_false, Int.reduceBEq, Int.reduceBNe, implies_true, forall_const, Nat.reduceSub, Nat.reduceEqDiff, Nat.reduceAdd, Nat.reduceMul, Nat.reduceLeDiff, Nat.reduceLT, Nat.reduceBEq, reduceCtorEq] | ((try refine zak ?_); apply zan; (solve | exact (hcl) | exact (hco) | (refine CallOK.le (hcl) ?_; simp [argsLe, aLe, csLe, cLe]) | (refine CallOK.le (hco) ?_; simp [argsLe, aLe, csLe, cLe]))) | (apply zaj; (focus (intro _; (solve | exact (hcl) | exact (hco) | (refine CallOK.le (hcl) ?_; simp [argsLe, aLe, csLe, cLe]) | (refine CallOK.le (hco) ?_; simp [argsLe, aLe, csLe, cLe])))); (focus rfl)) | refine zab ?_ | refine zad (fun hb => ?_) (fun hb => ?_) | (refine And.intro ?_ ?_; focus ((try with_reducible refine zal ?_); first | (with_reducible rfl) | ((with_reducible first | refine zam ?_ | refine zaf ?_ | refine zac ?_); kernel_rfl) | (intros; omega) | (intro q p; rw [q, p]; rfl) | (intro q; rw [q]; rfl) | (intro q; simp only [Bool.and_eq_true, decide_eq_true_eq, beq_iff_eq] at q; omega) | (intros; simp_all; done) | (intros; simp [List.range, List.range.loop]; done) | (intros; simp_all [List.range, List.range.loop]; done))) | refine And.intro (fun hg => ?_) (fun hg => ?_) | (with_reducible refine zac ?_; kernel_rfl) | fail)
    · rw [hq, hb, if_neg (by simp)] at hF
      unfold lineB
      rw [← hF]; rfl
    · exact hK _ (i + 1) (Gh.canon [] [] [] (by simp only [hw, zar, zaz, zas, zat, zau, zav, List.set_cons_zero, List.set_cons_succ, and_true, true_and, Int.natCast_zero, Int.cast_ofNat_Int, D.v.injEq, Value.int.injEq]; try (repeat' (first | rfl | omega | with_reducible apply And.intro))) rfl rfl) hi (by rw [zaM hi, hq, hb]; rfl) (by omega)
  · have hi : i = l.length := by
      have : ¬ (i : Int) < l.length := by simpa using hge
      omega
    rw [zcd hi] at hF
    unfold lineB
    rw [← hF]
    repeat' (first | (with_reducible first | refine zaa _ _ ?_ | refine zah ?_ | refine zai ?_) | rw [zae] | simp only [pkS, TyB, pkY, Int.reduceEq, bne_self_eq_false, Int.reduceBEq, Int.reduceBNe, implies_true, forall_const, Nat.reduceSub, Nat.reduceEqDiff, Nat.reduceAdd, Nat.reduceMul, Nat.reduceLeDiff, Nat.reduceLT, Nat.reduceBEq, reduceCtorEq] | refine zab ?_ | refine zad (fun hb => ?_) (fun hb => ?_) | (refine And.intro ?_ ?_; focus ((try with_reducible refine zal ?_); first | (with_reducible rfl) | ((with_reducible first | refine zam ?_ | refine zaf ?_ | refine zac ?_); kernel_rfl) | (intros; omega) | (intro q p; rw [q, p]; rfl) | (intro q; rw [q]; rfl) | (intro q; simp only [Bool.and_eq_true, decide_eq_true_eq, beq_iff_eq] at q; omega) | (intros; simp_all; done) | (intros; simp [List.range, List.range.loop]; done) | (intros; simp_all [List.range, List.range.loop]; done))) | refine And.intro (fun hg => ?_) (fun hg => ?_) | (with_reducible refine zac ?_; kernel_rfl) | fail)
theorem lright1_ok (k j : Lk) : CallOK Try.prog 58 [.f (lockAV k), .f (.one (.elt j.enc))] (fun r o => r = [rb (k.token == j.token)] ∧ o = []) := by
  refine zaq zaG mixed (T := Ty) (n := 9) Try.func58 (c := Try.f58.body.getD .skip) rfl Try.results58 Try.ntmps58 Try.call58 ?_
  simp only [Try.f58, Option.getD]
  repeat' (first | (with_reducible first | refine zaa _ _ ?_ | refine zah ?_ | refine zai ?_) | rw [zae] | simp only [pkS, TyB, pkY, Int.reduceEq, bne_self_eq_false, Int.reduceBEq, Int.reduceBNe, implies_true, forall_const, Nat.reduceSub, Nat.reduceEqDiff, Nat.reduceAdd, Nat.reduceMul, Nat.reduceLeDiff, Nat.reduceLT, Nat.reduceBEq, reduceCtorEq] | refine zab ?_ | refine zad (fun hb => ?_) (fun hb => ?_) | (refine And.intro ?_ ?_; focus ((try with_reducible refine zal ?_); first | (with_reducible rfl) | ((with_reducible first | refine zam ?_ | refine zaf ?_ | refine zac ?_); kernel_rfl) | (intros; omega) | (intro q p; rw [q, p]; rfl) | (intro q; rw [q]; rfl) | (intro q; simp only [Bool.and_eq_true, decide_eq_true_eq, beq_iff_eq] at q; omega) | (intros; simp_all; done) | (intros; simp [List.range, List.range.loop]; done) | (intros; simp_all [List.range, List.range.loop]; done))) | refine And.intro (fun hg => ?_) (fun hg => ?_) | (with_reducible refine zac ?_; kernel_rfl) | fail)
theorem zgY (l : List Lk) (hl : l.length < 2 ^ 30) (hll : ∀ k ∈ l, k.line.length < 2 ^ 30 ∧ k.name.size < 2 ^ 62) : CallOK Try.prog 27 [.f (al l.length (locksE l))] (fun r o => r = [rb (lockB l)] ∧ o = []) := by
  refine zaq zaG mixed (T := Ty) (n := 71) Try.func27 (c := Try.f27.body.getD .skip) rfl Try.results27 Try.ntmps27 Try.call27 ?_
  simp only [Try.f27, Option.getD]
  repeat' (first | (with_reducible first | refine zaa _ _ ?_ | refine zah ?_ | refine zai ?_) | rw [zae] | simp only [pkS, TyB, zax, pkY, Int.reduceEq, bne_self_eq_false, Int.reduceBEq, Int.reduceBNe, implies_true, forall_const, Nat.reduceSub, Nat.reduceEqDiff, Nat.reduceAdd, Nat.reduceMul, Nat.reduceLeDiff, Nat.reduceLT, Nat.reduceBEq, reduceCtorEq] | refine zab ?_ | refine zad (fun hb => ?_) (fun hb => ?_) | (refine And.intro ?_ ?_; focus ((try with_reducible refine zal ?_); first | (with_reducible rfl) | ((with_reducible first | refine zam ?_ | refine zaf ?_ | refine zac ?_); kernel_rfl) | (intros; omega) | (intro q p; rw [q, p]; rfl) | (intro q; rw [q]; rfl) | (intro q; simp only [Bool.and_eq_true, decide_eq_true_eq, beq_iff_eq] at q; omega) | (intros; simp_all; done) | (intros; simp [List.range, List.range.loop]; done) | (intros; simp_all [List.range, List.range.loop]; done))) | refine And.intro (fun hg => ?_) (fun hg => ?_) | (with_reducible refine zac ?_; kernel_rfl) | fail)
  refine zaH (τ := Nat) (fun i => ⟨[al l.length (locksE l), dd, dd, dd, dd, al l.length (locksE l), ai l.length, ai i, dd, dd, dd, dd, dd, dd, dd, dd, dd, dd, dd, dd, dd, dd, dd, dd, dd, dd, dd, dd, dd, dd, dd, dd, dd, dd, dd, dd, dd, dd, dd, dd, dd, dd, dd, dd, dd, dd, dd, dd, dd, dd, dd, dd, dd, dd, dd, dd, dd, dd, dd, dd, dd, dd, dd, dd, dd, dd, dd, dd, dd, dd, dd], [(4, ⟨2, []⟩)]⟩)
    (fun i => i ≤ l.length) (fun i => checkP (lockQ l) i (l.drop i)) (fun i => l.length - i) 0
    (Gh.canon [] [4] [] (by simp only [zar, zaz, zas, zat, zau, zav, List.set_cons_zero, List.set_cons_succ, and_true, true_and, Int.natCast_zero, Int.cast_ofNat_Int, D.v.injEq, Value.int.injEq]; try (repeat' (first | rfl | omega | with_reducible apply And.intro))) rfl rfl) (Nat.zero_le _) ?_
  intro i hi0 hF K hK
  rw [List.drop_zero] at hF
  repeat (first | with_reducible refine zaa _ _ ?_ | with_reducible refine And.imp_right (zaa _ _) ?_ | with_reducible refine And.imp_right (And.imp_right (zaa _ _)) ?_ | with_reducible refine And.imp_right (And.imp_right (And.imp_right (zaa _ _))) ?_ | rw [zae] | simp only [pkS, TyB,  implies_true, forall_const, Nat.reduceSub, Nat.reduceEqDiff, Nat.reduceAdd, Nat.reduceMul, Nat.reduceLeDiff, Nat.reduceLT, Nat.reduceBEq, reduceCtorEq])
  refine zad (fun hlt => ?_) (fun hge => ?_)
  · have hi : i < l.length := by simpa using hlt
    have hat := zaV hi
    obtain ⟨hk1, hk2⟩ := hll _ (List.getElem_mem hi)
    have hw := zaI hi (by omega)
    rw [zaM hi] at hF
    have hnm := zdS l[i].name hk2
    have hlr := zgX l[i].line hk1
    have hlc := zaF l[i].line (by omega) l[i].holder
    have hlt2 : (l.take i).length = i := by rw [List.length_take]; omega
    have htk : (locksE l).take (i * 4) = locksE (l.take i) := zbN Lk.enc 4 (fun _ => rfl) (by omega)
    have hco := zfT (l.take i) (by omega) (fun o => o.token == l[i].token) 58 [.elt l[i].enc] rfl rfl (fun x _ => lright1_ok x _)
    rw [hlt2] at hco
    cases e0 : decide ((i : Int) > 0)
    · have h0 : i = 0 := by simpa using e0
      have hq : lockQ l i l[i] = (!(!nameP l[i].name || decide (l[i].holder < 0) || decide (l[i].holder ≥ 8) || decide (l[i].token < 1) || decide (l[i].token > 2305843009213693952)) && !(!lineB l[i].line || l[i].line.any fun x => l[i].holder == x) && !((l.take i).any fun o => o.token == l[i].token)) := by
        unfold lockQ okLk hasI
        have : decide (i > 0) = false := by simpa using e0
        rw [this]
        simp only [Bool.not_or, Bool.not_not, Bool.false_and, Bool.or_false]
      have hp : (locksE l).drop ((IntKind.i64.wrap ((i : Int) - 1)).toNat * 4) = l[i].enc ++ locksE (l.drop (i + 1)) := by
        rw [← zaV hi, h0]; rfl
      repeat' (first | (with_reducible first | refine zaa _ _ ?_ | refine zah ?_ | refine zai ?_) | rw [zae] | simp only [pkS, TyB, hat, hp, htk, e0, List.cons_append, List.nil_append, zax, pkY, Int.reduceEq, bne_self_eq_false, Int.reduceBEq, Int.reduceBNe, implies_true, forall_const, Nat.reduceSub, Nat.reduceEqDiff, Nat.reduceAdd, Nat.reduceMul, Nat.reduceLeDiff, Nat.reduceLT, Nat.reduceBEq, reduceCtorEq] | ((try refine zak ?_); apply zan; (solve | exact (hnm) | exact (hlr) | exact (hlc) | exact (hco) | (refine CallOK.le (hnm) ?_; simp [argsLe, aLe, csLe, cLe]) | (refine CallOK.le (hlr) ?_; simp [argsLe, aLe, csLe, cLe]) | (refine CallOK.le (hlc) ?_; simp [argsLe, aLe, csLe, cLe]) | (refine CallOK.le (hco) ?_; simp [argsLe, aLe, csLe, cLe]))) | (apply zaj; (focus (intro _; (solve | exact (hnm) | exact (hlr) | exact (hlc) | exact (hco) | (refine CallOK.le (hnm) ?_; simp [argsLe, aLe, csLe, cLe]) | (refine CallOK.le (hlr) ?_; simp [argsLe, aLe, csLe, cLe]) | (refine CallOK.le (hlc) ?_; simp [argsLe, aLe, csLe, cLe]) | (refine CallOK.le (hco) ?_; simp [argsLe, aLe, csLe, cLe])))); (focus rfl)) | refine zab ?_ | refine zad (fun hb => ?_) (fun hb => ?_) | (refine And.intro ?_ ?_; focus ((try with_reducible refine zal ?_); first | (with_reducible rfl) | ((with_reducible first | refine zam ?_ | refine zaf ?_ | refine zac ?_); kernel_rfl) | (intros; omega) | (intro q p; rw [q, p]; rfl) | (intro q; rw [q]; rfl) | (intro q; simp only [Bool.and_eq_true, decide_eq_true_eq, beq_iff_eq] at q; omega) | (intros; simp_all; done) | (intros; simp [List.range, List.range.loop]; done) | (intros; simp_all [List.range, List.range.loop]; done))) | refine And.intro (fun hg => ?_) (fun hg => ?_) | (with_reducible refine zac ?_; kernel_rfl) | fail)
      · rw [hq, hb, if_neg (by simp)] at hF
        unfold lockB
        rw [← hF]; rfl
      · rename_i ha
        rw [hq, ha, hb, if_neg (by simp)] at hF
        unfold lockB
        rw [← hF]; rfl
      · rename_i ha hc
        rw [hq, ha, hc, hb, if_neg (by simp)] at hF
        unfold lockB
        rw [← hF]; rfl
      · rename_i ha hc
        exact hK _ (i + 1) (Gh.canon [] [] [] (by simp only [hw, zar, zaz, zas, zat, zau, zav, List.set_cons_zero, List.set_cons_succ, and_true, true_and, Int.natCast_zero, Int.cast_ofNat_Int, D.v.injEq, Value.int.injEq]; try (repeat' (first | rfl | omega | with_reducible apply And.intro))) rfl rfl) hi (by rw [zaM hi, hq, ha, hc, hb]; rfl) (by omega)
    · have h0 : 0 < i := by simpa using e0
      have hq : lockQ l i l[i] = (!(!nameP l[i].name || decide (l[i].holder < 0) || decide (l[i].holder ≥ 8) || decide (l[i].token < 1) || decide (l[i].token > 2305843009213693952)) && !(!lineB l[i].line || (l[i].line.any fun x => l[i].holder == x) || !(bLess (l[i - 1]'(by omega)).name l[i].name)) && !((l.take i).any fun o => o.token == l[i].token)) := by
        unfold lockQ okLk hasI prevL
        have : decide (i > 0) = true := by simpa using e0
        rw [this, List.getElem?_eq_getElem (by omega)]
        simp only [Bool.not_or, Bool.not_not, Bool.true_and, Option.map_some, Option.getD_some]
      have hp := zaV (show i - 1 < l.length by omega)
      have hw1 : IntKind.i64.wrap ((i : Int) - 1) = ((i - 1 : Nat) : Int) := by rw [wrap64 (by omega) (by omega)]; omega
      repeat' (first | (with_reducible first | refine zaa _ _ ?_ | refine zah ?_ | refine zai ?_) | rw [zae] | simp only [pkS, TyB, hat, hp, hw1, htk, e0, List.cons_append, List.nil_append, zax, pkY, Int.reduceEq, bne_self_eq_false, Int.reduceBEq, Int.reduceBNe, implies_true, forall_const, Nat.reduceSub, Nat.reduceEqDiff, Nat.reduceAdd, Nat.reduceMul, Nat.reduceLeDiff, Nat.reduceLT, Nat.reduceBEq, reduceCtorEq] | ((try refine zak ?_); apply zan; (solve | exact (hnm) | exact (hlr) | exact (hlc) | exact (hco) | (refine CallOK.le (hnm) ?_; simp [argsLe, aLe, csLe, cLe]) | (refine CallOK.le (hlr) ?_; simp [argsLe, aLe, csLe, cLe]) | (refine CallOK.le (hlc) ?_; simp [argsLe, aLe, csLe, cLe]) | (refine CallOK.le (hco) ?_; simp [argsLe, aLe, csLe, cLe]))) | (apply zaj; (focus (intro _; (solve | exact (hnm) | exact (hlr) | exact (hlc) | exact (hco) | (refine CallOK.le (hnm) ?_; simp [argsLe, aLe, csLe, cLe]) | (refine CallOK.le (hlr) ?_; simp [argsLe, aLe, csLe, cLe]) | (refine CallOK.le (hlc) ?_; simp [argsLe, aLe, csLe, cLe]) | (refine CallOK.le (hco) ?_; simp [argsLe, aLe, csLe, cLe])))); (focus rfl)) | refine zab ?_ | refine zad (fun hb => ?_) (fun hb => ?_) | (refine And.intro ?_ ?_; focus ((try with_reducible refine zal ?_); first | (with_reducible rfl) | ((with_reducible first | refine zam ?_ | refine zaf ?_ | refine zac ?_); kernel_rfl) | (intros; omega) | (intro q p; rw [q, p]; rfl) | (intro q; rw [q]; rfl) | (intro q; simp only [Bool.and_eq_true, decide_eq_true_eq, beq_iff_eq] at q; omega) | (intros; simp_all; done) | (intros; simp [List.range, List.range.loop]; done) | (intros; simp_all [List.range, List.range.loop]; done))) | refine And.intro (fun hg => ?_) (fun hg => ?_) | (with_reducible refine zac ?_; kernel_rfl) | fail)
      · rw [hq, hb, if_neg (by simp)] at hF
        unfold lockB
        rw [← hF]; rfl
      · rename_i ha
        rw [hq, ha, hb, if_neg (by simp)] at hF
        unfold lockB
        rw [← hF]; rfl
      · rename_i ha hc
        rw [hq, ha, hc, hb, if_neg (by simp)] at hF
        unfold lockB
        rw [← hF]; rfl
      · rename_i ha hc
        exact hK _ (i + 1) (Gh.canon [] [] [] (by simp only [hw, zar, zaz, zas, zat, zau, zav, List.set_cons_zero, List.set_cons_succ, and_true, true_and, Int.natCast_zero, Int.cast_ofNat_Int, D.v.injEq, Value.int.injEq]; try (repeat' (first | rfl | omega | with_reducible apply And.intro))) rfl rfl) hi (by rw [zaM hi, hq, ha, hc, hb]; rfl) (by omega)
  · have hi : i = l.length := by
      have : ¬ (i : Int) < l.length := by simpa using hge
      omega
    rw [zcd hi] at hF
    unfold lockB
    rw [← hF]
    repeat' (first | (with_reducible first | refine zaa _ _ ?_ | refine zah ?_ | refine zai ?_) | rw [zae] | simp only [pkS, TyB, pkY, Int.reduceEq, bne_self_eq_false, Int.reduceBEq, Int.reduceBNe, implies_true, forall_const, Nat.reduceSub, Nat.reduceEqDiff, Nat.reduceAdd, Nat.reduceMul, Nat.reduceLeDiff, Nat.reduceLT, Nat.reduceBEq, reduceCtorEq] | refine zab ?_ | refine zad (fun hb => ?_) (fun hb => ?_) | (refine And.intro ?_ ?_; focus ((try with_reducible refine zal ?_); first | (with_reducible rfl) | ((with_reducible first | refine zam ?_ | refine zaf ?_ | refine zac ?_); kernel_rfl) | (intros; omega) | (intro q p; rw [q, p]; rfl) | (intro q; rw [q]; rfl) | (intro q; simp only [Bool.and_eq_true, decide_eq_true_eq, beq_iff_eq] at q; omega) | (intros; simp_all; done) | (intros; simp [List.range, List.range.loop]; done) | (intros; simp_all [List.range, List.range.loop]; done))) | refine And.intro (fun hg => ?_) (fun hg => ?_) | (with_reducible refine zac ?_; kernel_rfl) | fail)
theorem zfV (l : List Lk) (hl : l.length < 2 ^ 30) (c : Int) : CallOK Try.prog 48 [.f (al l.length (locksE l)), .f (ai c)] (fun r o => r = [.one (.own 2 (heldP l c).length (grantsE (heldP l c)) false)] ∧ o = []) := by
  refine CallOK.nil ?_
  refine zaq zaG mixed (T := Ty) (n := 28) Try.func48 (c := Try.f48.body.getD .skip) rfl Try.results48 Try.ntmps48 Try.call48 ?_
  simp only [Try.f48, Option.getD]
  repeat' (first | (with_reducible first | refine zaa _ _ ?_ | refine zah ?_ | refine zai ?_) | rw [zae] | simp only [pkS, TyB, zax, pkY, Int.reduceEq, bne_self_eq_false, Int.reduceBEq, Int.reduceBNe, implies_true, forall_const, Nat.reduceSub, Nat.reduceEqDiff, Nat.reduceAdd, Nat.reduceMul, Nat.reduceLeDiff, Nat.reduceLT, Nat.reduceBEq, reduceCtorEq] | refine zab ?_ | refine zad (fun hb => ?_) (fun hb => ?_) | (refine And.intro ?_ ?_; focus ((try with_reducible refine zal ?_); first | (with_reducible rfl) | ((with_reducible first | refine zam ?_ | refine zaf ?_ | refine zac ?_); kernel_rfl) | (intros; omega) | (intro q p; rw [q, p]; rfl) | (intro q; rw [q]; rfl) | (intro q; simp only [Bool.and_eq_true, decide_eq_true_eq, beq_iff_eq] at q; omega) | (intros; simp_all; done) | (intros; simp [List.range, List.range.loop]; done) | (intros; simp_all [List.range, List.range.loop]; done))) | refine And.intro (fun hg => ?_) (fun hg => ?_) | (with_reducible refine zac ?_; kernel_rfl) | fail)
  refine zaH (τ := Nat × List Grant) (fun t => ⟨[dd, ai c, dd, dd, dd, .one (.own ⟨5, 1, 1⟩ 0 t.2.length), dd, dd, al l.length (locksE l), ai l.length, ai t.1, dd, dd, dd, dd, dd, dd, dd, dd, dd, dd, dd, dd, dd, dd, dd, dd, dd], [(5, { next := 2, l := [none, some { e := 1, var := false, fz := false, sz := 2, cells := (grantsE t.2).map C.d }] }), (7, ⟨2, []⟩), (24, ⟨2, []⟩), (25, ⟨2, []⟩)]⟩)
    (fun t => t.1 ≤ l.length ∧ t.2.length ≤ t.1) (fun t => t.2 ++ heldP (l.drop t.1) c) (fun t => l.length - t.1) (0, [])
    ((Gh.nil (i := 5) (s := 5) (sz := 2) rfl).trans (Gh.canon [5] [7, 24, 25] [] (by simp only [zar, zaz, zas, zat, zau, zav, List.set_cons_zero, List.set_cons_succ, and_true, true_and, Int.natCast_zero, Int.cast_ofNat_Int, D.v.injEq, Value.int.injEq]; try (repeat' (first | rfl | omega | with_reducible apply And.intro))) rfl rfl)) ⟨Nat.zero_le _, Nat.zero_le _⟩ ?_
  intro ⟨i, acc⟩ ⟨hi0, ha⟩ hF K hK
  simp only [List.drop_zero, List.nil_append] at hi0 ha hF hK ⊢
  repeat (first | with_reducible refine zaa _ _ ?_ | with_reducible refine And.imp_right (zaa _ _) ?_ | with_reducible refine And.imp_right (And.imp_right (zaa _ _)) ?_ | with_reducible refine And.imp_right (And.imp_right (And.imp_right (zaa _ _))) ?_ | rw [zae] | simp only [pkS, TyB,  implies_true, forall_const, Nat.reduceSub, Nat.reduceEqDiff, Nat.reduceAdd, Nat.reduceMul, Nat.reduceLeDiff, Nat.reduceLT, Nat.reduceBEq, reduceCtorEq])
  refine zad (fun hlt => ?_) (fun hge => ?_)
  · have hi : i < l.length := by simpa using hlt
    have hat := zaV hi
    have hw := zaI hi (by omega)
    have hFs : heldP (l.drop i) c = if (l[i].holder == c) = true then ⟨l[i].name, l[i].token⟩ :: heldP (l.drop (i + 1)) c else heldP (l.drop (i + 1)) c := by
      unfold heldP
      rw [List.drop_eq_getElem_cons hi, List.filter_cons]
      split <;> simp
    cases hb : l[i].holder == c
    · rw [hb, if_neg (by simp)] at hFs
      repeat' (first | (with_reducible first | refine zaa _ _ ?_ | refine zah ?_ | refine zai ?_) | rw [zae] | simp only [pkS, TyB, hat, hb, List.cons_append, List.nil_append, zax, pkY, Int.reduceEq, bne_self_eq_false, Int.reduceBEq, Int.reduceBNe, implies_true, forall_const, Nat.reduceSub, Nat.reduceEqDiff, Nat.reduceAdd, Nat.reduceMul, Nat.reduceLeDiff, Nat.reduceLT, Nat.reduceBEq, reduceCtorEq] | refine zab ?_ | refine zad (fun hb => ?_) (fun hb => ?_) | (refine And.intro ?_ ?_; focus ((try with_reducible refine zal ?_); first | (with_reducible rfl) | ((with_reducible first | refine zam ?_ | refine zaf ?_ | refine zac ?_); kernel_rfl) | (intros; omega) | (intro q p; rw [q, p]; rfl) | (intro q; rw [q]; rfl) | (intro q; simp only [Bool.and_eq_true, decide_eq_true_eq, beq_iff_eq] at q; omega) | (intros; simp_all; done) | (intros; simp [List.range, List.range.loop]; done) | (intros; simp_all [List.range, List.range.loop]; done))) | refine And.intro (fun hg => ?_) (fun hg => ?_) | (with_reducible refine zac ?_; kernel_rfl) | fail)
      exact hK _ (i + 1, acc) (Gh.canon [5] [] [] (by simp only [hw, zar, zaz, zas, zat, zau, zav, List.set_cons_zero, List.set_cons_succ, and_true, true_and, Int.natCast_zero, Int.cast_ofNat_Int, D.v.injEq, Value.int.injEq]; try (repeat' (first | rfl | omega | with_reducible apply And.intro))) rfl rfl) ⟨hi, by simp only; omega⟩ (by simp only; rw [hFs]) (by simp only; omega)
    · rw [hb, if_pos rfl] at hFs
      repeat' (first | (with_reducible first | refine zaa _ _ ?_ | refine zah ?_ | refine zai ?_) | rw [zae] | simp only [pkS, TyB, hat, hb, List.cons_append, List.nil_append, zax, pkY, Int.reduceEq, bne_self_eq_false, Int.reduceBEq, Int.reduceBNe, implies_true, forall_const, Nat.reduceSub, Nat.reduceEqDiff, Nat.reduceAdd, Nat.reduceMul, Nat.reduceLeDiff, Nat.reduceLT, Nat.reduceBEq, reduceCtorEq] | refine zab ?_ | refine zad (fun hb => ?_) (fun hb => ?_) | (refine And.intro ?_ ?_; focus ((try with_reducible refine zal ?_); first | (with_reducible rfl) | ((with_reducible first | refine zam ?_ | refine zaf ?_ | refine zac ?_); kernel_rfl) | (intros; omega) | (intro q p; rw [q, p]; rfl) | (intro q; rw [q]; rfl) | (intro q; simp only [Bool.and_eq_true, decide_eq_true_eq, beq_iff_eq] at q; omega) | (intros; simp_all; done) | (intros; simp [List.range, List.range.loop]; done) | (intros; simp_all [List.range, List.range.loop]; done))) | refine And.intro (fun hg => ?_) (fun hg => ?_) | (with_reducible refine zac ?_; kernel_rfl) | fail)
      exact hK _ (i + 1, acc ++ [⟨l[i].name, l[i].token⟩]) (Gh.canon [5] [] [] (by simp only [hw, List.length_append, List.length_singleton, zar, zaz, zas, zat, zau, zav, List.set_cons_zero, List.set_cons_succ, and_true, true_and, Int.natCast_zero, Int.cast_ofNat_Int, D.v.injEq, Value.int.injEq]; try (repeat' (first | rfl | omega | with_reducible apply And.intro))) rfl (by simp only [List.length_append, List.length_singleton]; rw [zf9]; rfl)) ⟨hi, by simp only [List.length_append, List.length_singleton]; omega⟩ (by simp only [List.append_assoc, List.singleton_append]; rw [hFs]) (by simp only; omega)
  · have hi : i = l.length := by
      have : ¬ (i : Int) < l.length := by simpa using hge
      omega
    rw [hi, List.drop_length, show heldP [] c = [] from rfl, List.append_nil] at hF
    rw [← hF]
    repeat' (first | (with_reducible first | refine zaa _ _ ?_ | refine zah ?_ | refine zai ?_) | rw [zae] | simp only [pkS, TyB, pkY, Int.reduceEq, bne_self_eq_false, Int.reduceBEq, Int.reduceBNe, implies_true, forall_const, Nat.reduceSub, Nat.reduceEqDiff, Nat.reduceAdd, Nat.reduceMul, Nat.reduceLeDiff, Nat.reduceLT, Nat.reduceBEq, reduceCtorEq] | refine zab ?_ | refine zad (fun hb => ?_) (fun hb => ?_) | (refine And.intro ?_ ?_; focus ((try with_reducible refine zal ?_); first | (with_reducible rfl) | ((with_reducible first | refine zam ?_ | refine zaf ?_ | refine zac ?_); kernel_rfl) | (intros; omega) | (intro q p; rw [q, p]; rfl) | (intro q; rw [q]; rfl) | (intro q; simp only [Bool.and_eq_true, decide_eq_true_eq, beq_iff_eq] at q; omega) | (intros; simp_all; done) | (intros; simp [List.range, List.range.loop]; done) | (intros; simp_all [List.range, List.range.loop]; done))) | refine And.intro (fun hg => ?_) (fun hg => ?_) | (with_reducible refine zac ?_; kernel_rfl) | fail)
    simp [rfs1, roLe]
theorem pass_ok (l : List Lk) (i : Nat) (hi : i < l.length) (hl : l.length < 2 ^ 30) (hll : ∀ k ∈ l, k.line.length < 2 ^ 30) (t : Int) (ht : 0 ≤ t ∧ t < 2 ^ 62) :
    CallOK Try.prog 61 [.row 4 l.length (locksE l), .f (ai i), .f (ai t)]
    (fun r o => r = [.one (.own 4 (passP l i l[i] t).1.length (locksE (passP l i l[i] t).1) true), ri (passP l i l[i] t).2] ∧ o = [[]]) := by
  refine zaq zaG mixed (T := Ty) (n := 42) Try.func61 (c := Try.f61.body.getD .skip) rfl Try.results61 Try.ntmps61 Try.call61 ?_
  simp only [Try.f61, Option.getD]
  have hat := zaV hi
  simp only [List.cons_append, List.nil_append] at hat
  have hat2 : (locksE l).drop (i * 4 + 3) = .sl l[i].line.length (intsE l[i].line) :: locksE (l.drop (i + 1)) := by rw [← List.drop_drop, hat]; rfl
  have hnx := next_ok l[i].line (hll _ (List.getElem_mem hi))
  have hw := zaI hi (by omega)
  have hwt : IntKind.i64.wrap (t + 1) = t + 1 := wrap64 (by omega) (by omega)
  cases hline : l[i].line with
  | nil =>
    rw [hline] at hnx
    simp only [List.headD_nil, List.tail_nil, List.isEmpty_nil] at hnx
    rw [hline] at hat2
    obtain ⟨n, hn⟩ : ∃ n, l.length = n + 1 := ⟨l.length - 1, by omega⟩
    have hdl := delLock_ok n i (locksE l) (by rw [zax, hn]) (by omega) (by omega)
    rw [← hn] at hdl
    repeat' (first | (with_reducible first | refine zaa _ _ ?_ | refine zah ?_ | refine zai ?_) | rw [zae] | simp only [pkS, TyB, hat2, hw, hwt, ← List.map_drop, List.map_cons, zax, rowI, pkY, Int.reduceEq, bne_self_eq_false, Int.reduceBEq, Int.reduceBNe, implies_true, forall_const, Nat.reduceSub, Nat.reduceEqDiff, Nat.reduceAdd, Nat.reduceMul, Nat.reduceLeDiff, Nat.reduceLT, Nat.reduceBEq, reduceCtorEq] | ((try refine zak ?_); apply zan; (solve | exact (hnx) | (refine CallOK.le (hnx) ?_; simp [argsLe, aLe, csLe, cLe]))) | (apply zaj; (focus (intro _; (solve | exact (hnx) | (refine CallOK.le (hnx) ?_; simp [argsLe, aLe, csLe, cLe])))); (focus rfl)) | refine zab ?_ | refine zad (fun hb => ?_) (fun hb => ?_) | (refine And.intro ?_ ?_; focus ((try with_reducible refine zal ?_); first | (with_reducible rfl) | ((with_reducible first | refine zam ?_ | refine zaf ?_ | refine zac ?_); kernel_rfl) | (intros; omega) | (intro q p; rw [q, p]; rfl) | (intro q; rw [q]; rfl) | (intro q; simp only [Bool.and_eq_true, decide_eq_true_eq, beq_iff_eq] at q; omega) | (intros; simp_all; done) | (intros; simp [List.range, List.range.loop]; done) | (intros; simp_all [List.range, List.range.loop]; done))) | refine And.intro (fun hg => ?_) (fun hg => ?_) | (with_reducible refine zac ?_; kernel_rfl) | fail)
    refine zbb (mv := ?mv1) (lent := ?le1) 0 ?ha1 (hdl) ?hb1 ?hc1
    case ha1 => (try simp only [pkS, TyB, zaC, implies_true, forall_const, Nat.reduceSub, Nat.reduceEqDiff, Nat.reduceAdd, Nat.reduceMul, Nat.reduceLeDiff, Nat.reduceLT, Nat.reduceBEq, reduceCtorEq]); exact rfl
    case hb1 => (try simp only [pkS, TyB, scM, implies_true, forall_const, Nat.reduceSub, Nat.reduceEqDiff, Nat.reduceAdd, Nat.reduceMul, Nat.reduceLeDiff, Nat.reduceLT, Nat.reduceBEq, reduceCtorEq]); repeat' (first | rfl | trivial | omega | with_reducible refine And.intro ?_ ?_)
    show aops _ _ _ _ _ _ _ _
    repeat' (first | (with_reducible first | refine zaa _ _ ?_ | refine zah ?_ | refine zai ?_) | rw [zae] | simp only [pkS, TyB, pkY, Int.reduceEq, bne_self_eq_false, Int.reduceBEq, Int.reduceBNe, implies_true, forall_const, Nat.reduceSub, Nat.reduceEqDiff, Nat.reduceAdd, Nat.reduceMul, Nat.reduceLeDiff, Nat.reduceLT, Nat.reduceBEq, reduceCtorEq] | refine zab ?_ | refine zad (fun hb => ?_) (fun hb => ?_) | (refine And.intro ?_ ?_; focus ((try with_reducible refine zal ?_); first | (with_reducible rfl) | ((with_reducible first | refine zam ?_ | refine zaf ?_ | refine zac ?_); kernel_rfl) | (intros; omega) | (intro q p; rw [q, p]; rfl) | (intro q; rw [q]; rfl) | (intro q; simp only [Bool.and_eq_true, decide_eq_true_eq, beq_iff_eq] at q; omega) | (intros; simp_all; done) | (intros; simp [List.range, List.range.loop]; done) | (intros; simp_all [List.range, List.range.loop]; done))) | refine And.intro (fun hg => ?_) (fun hg => ?_) | (with_reducible refine zac ?_; kernel_rfl) | fail)
    have hp : passP l i l[i] t = (l.eraseIdx i, 0) := by unfold passP; rw [hline]
    rw [hp]
    have h1 := erase_enc Lk.enc 4 (fun _ => rfl) hi
    have h2 := zgR hi
    simp only [h1, h2, show l.length - 1 = n by omega]
  | cons c rest =>
    rw [hline] at hnx
    simp only [List.headD_cons, List.tail_cons, List.isEmpty_cons] at hnx
    rw [hline] at hat2
    have hset := zef Lk.enc 4 (fun _ => rfl) hi ⟨l[i].name, c, t + 1, rest⟩
    simp only [fillAt, List.map_cons, List.map_nil] at hset
    have hp : passP l i l[i] t = (l.set i ⟨l[i].name, c, t + 1, rest⟩, 1) := by unfold passP; rw [hline]
    rw [hp]
    repeat' (first | (with_reducible first | refine zaa _ _ ?_ | refine zah ?_ | refine zai ?_) | rw [zae] | simp only [pkS, TyB, hat, hat2, hw, hwt, hset, ← List.map_drop, List.map_cons, zax, rowI, pkY, Int.reduceEq, bne_self_eq_false, Int.reduceBEq, Int.reduceBNe, implies_true, forall_const, Nat.reduceSub, Nat.reduceEqDiff, Nat.reduceAdd, Nat.reduceMul, Nat.reduceLeDiff, Nat.reduceLT, Nat.reduceBEq, reduceCtorEq] | ((try refine zak ?_); apply zan; (solve | exact (hnx) | (refine CallOK.le (hnx) ?_; simp [argsLe, aLe, csLe, cLe]))) | (apply zaj; (focus (intro _; (solve | exact (hnx) | (refine CallOK.le (hnx) ?_; simp [argsLe, aLe, csLe, cLe])))); (focus rfl)) | refine zab ?_ | refine zad (fun hb => ?_) (fun hb => ?_) | (refine And.intro ?_ ?_; focus ((try with_reducible refine zal ?_); first | (with_reducible rfl) | ((with_reducible first | refine zam ?_ | refine zaf ?_ | refine zac ?_); kernel_rfl) | (intros; omega) | (intro q p; rw [q, p]; rfl) | (intro q; rw [q]; rfl) | (intro q; simp only [Bool.and_eq_true, decide_eq_true_eq, beq_iff_eq] at q; omega) | (intros; simp_all; done) | (intros; simp [List.range, List.range.loop]; done) | (intros; simp_all [List.range, List.range.loop]; done))) | refine And.intro (fun hg => ?_) (fun hg => ?_) | (with_reducible refine zac ?_; kernel_rfl) | fail)
    rw [List.length_set]
theorem take_ok (l : List Lk) (hs : SL l) (hl : l.length < 2 ^ 30) (hll : ∀ k ∈ l, k.line.length < 2 ^ 30) (name : ByteArray) (c t : Int) (ht : 0 ≤ t ∧ t < 2 ^ 62) (w : Bool) :
    CallOK Try.prog 46 [.f (al l.length (locksE l)), .f (ast name), .f (ai c), .f (ai t), .f (ab w)]
    (fun r o => r = [.one (.own 4 (takeP l name c t w).1.length (locksE (takeP l name c t w).1) false), ri (takeP l name c t w).2.1, ri (takeP l name c t w).2.2] ∧ o = []) := by
  refine CallOK.nil ?_
  refine zaq zaG mixed (T := Ty) (n := 96) Try.func46 (c := Try.f46.body.getD .skip) rfl Try.results46 Try.ntmps46 Try.call46 ?_
  simp only [Try.f46, Option.getD]
  have hp := zgW l hs (by omega) name
  have hco := zdT l hl hll
  have hwt : IntKind.i64.wrap (t + 1) = t + 1 := wrap64 (by omega) (by omega)
  cases hf : findL l name with
  | none =>
    rw [hf] at hp
    simp only [Option.isSome_none] at hp
    have hin := insLock_ok l.length (posL l name) (locksE l) [sD name, iD c, iD (t + 1), .sl 0 []] zax rfl zbt hl
    have htk : takeP l name c t w = if decide ((l.length : Int) ≥ 4) = true then ([], 0, 5) else (l.take (posL l name) ++ ⟨name, c, t + 1, []⟩ :: l.drop (posL l name), 0, 0) := by unfold takeP; rw [hf]
    rw [htk]
    have hti := zhv Lk.enc 4 (fun _ => rfl) (l := l) (k := posL l name) zbt ⟨name, c, t + 1, []⟩
    have htl := zeN (l := l) (k := posL l name) zbt ⟨name, c, t + 1, []⟩
    cases h4 : decide ((l.length : Int) ≥ 4)
    · rw [if_neg (by simp)]
      simp only [hti, htl]
      repeat' (first | (with_reducible first | refine zaa _ _ ?_ | refine zah ?_ | refine zai ?_) | rw [zae] | simp only [pkS, TyB, hwt, h4, zax, pkY, Int.reduceEq, bne_self_eq_false, Int.reduceBEq, Int.reduceBNe, implies_true, forall_const, Nat.reduceSub, Nat.reduceEqDiff, Nat.reduceAdd, Nat.reduceMul, Nat.reduceLeDiff, Nat.reduceLT, Nat.reduceBEq, reduceCtorEq] | ((try refine zak ?_); apply zan; (solve | exact (hp) | exact (hco) | (refine CallOK.le (hp) ?_; simp [argsLe, aLe, csLe, cLe]) | (refine CallOK.le (hco) ?_; simp [argsLe, aLe, csLe, cLe]))) | (apply zaj; (focus (intro _; (solve | exact (hp) | exact (hco) | (refine CallOK.le (hp) ?_; simp [argsLe, aLe, csLe, cLe]) | (refine CallOK.le (hco) ?_; simp [argsLe, aLe, csLe, cLe])))); (focus rfl)) | refine zab ?_ | refine zad (fun hb => ?_) (fun hb => ?_) | (refine And.intro ?_ ?_; focus ((try with_reducible refine zal ?_); first | (with_reducible rfl) | ((with_reducible first | refine zam ?_ | refine zaf ?_ | refine zac ?_); kernel_rfl) | (intros; omega) | (intro q p; rw [q, p]; rfl) | (intro q; rw [q]; rfl) | (intro q; simp only [Bool.and_eq_true, decide_eq_true_eq, beq_iff_eq] at q; omega) | (intros; simp_all; done) | (intros; simp [List.range, List.range.loop]; done) | (intros; simp_all [List.range, List.range.loop]; done))) | refine And.intro (fun hg => ?_) (fun hg => ?_) | (with_reducible refine zac ?_; kernel_rfl) | fail)
      refine zbb (mv := ?mv2) (lent := ?le2) 0 ?ha2 (hin) ?hb2 ?hc2
      case ha2 => (try simp only [pkS, TyB, zaC, implies_true, forall_const, Nat.reduceSub, Nat.reduceEqDiff, Nat.reduceAdd, Nat.reduceMul, Nat.reduceLeDiff, Nat.reduceLT, Nat.reduceBEq, reduceCtorEq]); exact rfl
      case hb2 => (try simp only [pkS, TyB, scM, implies_true, forall_const, Nat.reduceSub, Nat.reduceEqDiff, Nat.reduceAdd, Nat.reduceMul, Nat.reduceLeDiff, Nat.reduceLT, Nat.reduceBEq, reduceCtorEq]); repeat' (first | rfl | trivial | omega | with_reducible refine And.intro ?_ ?_)
      show aops _ _ _ _ _ _ _ _
      repeat' (first | (with_reducible first | refine zaa _ _ ?_ | refine zah ?_ | refine zai ?_) | rw [zae] | simp only [pkS, TyB, pkY, Int.reduceEq, bne_self_eq_false, Int.reduceBEq, Int.reduceBNe, implies_true, forall_const, Nat.reduceSub, Nat.reduceEqDiff, Nat.reduceAdd, Nat.reduceMul, Nat.reduceLeDiff, Nat.reduceLT, Nat.reduceBEq, reduceCtorEq] | refine zab ?_ | refine zad (fun hb => ?_) (fun hb => ?_) | (refine And.intro ?_ ?_; focus ((try with_reducible refine zal ?_); first | (with_reducible rfl) | ((with_reducible first | refine zam ?_ | refine zaf ?_ | refine zac ?_); kernel_rfl) | (intros; omega) | (intro q p; rw [q, p]; rfl) | (intro q; rw [q]; rfl) | (intro q; simp only [Bool.and_eq_true, decide_eq_true_eq, beq_iff_eq] at q; omega) | (intros; simp_all; done) | (intros; simp [List.range, List.range.loop]; done) | (intros; simp_all [List.range, List.range.loop]; done))) | refine And.intro (fun hg => ?_) (fun hg => ?_) | (with_reducible refine zac ?_; kernel_rfl) | fail)
      simp [rfs3, roLe]
    · rw [if_pos rfl]
      repeat' (first | (with_reducible first | refine zaa _ _ ?_ | refine zah ?_ | refine zai ?_) | rw [zae] | simp only [pkS, TyB, h4, zax, pkY, Int.reduceEq, bne_self_eq_false, Int.reduceBEq, Int.reduceBNe, implies_true, forall_const, Nat.reduceSub, Nat.reduceEqDiff, Nat.reduceAdd, Nat.reduceMul, Nat.reduceLeDiff, Nat.reduceLT, Nat.reduceBEq, reduceCtorEq] | ((try refine zak ?_); apply zan; (solve | exact (hp) | (refine CallOK.le (hp) ?_; simp [argsLe, aLe, csLe, cLe]))) | (apply zaj; (focus (intro _; (solve | exact (hp) | (refine CallOK.le (hp) ?_; simp [argsLe, aLe, csLe, cLe])))); (focus rfl)) | refine zab ?_ | refine zad (fun hb => ?_) (fun hb => ?_) | (refine And.intro ?_ ?_; focus ((try with_reducible refine zal ?_); first | (with_reducible rfl) | ((with_reducible first | refine zam ?_ | refine zaf ?_ | refine zac ?_); kernel_rfl) | (intros; omega) | (intro q p; rw [q, p]; rfl) | (intro q; rw [q]; rfl) | (intro q; simp only [Bool.and_eq_true, decide_eq_true_eq, beq_iff_eq] at q; omega) | (intros; simp_all; done) | (intros; simp [List.range, List.range.loop]; done) | (intros; simp_all [List.range, List.range.loop]; done))) | refine And.intro (fun hg => ?_) (fun hg => ?_) | (with_reducible refine zac ?_; kernel_rfl) | fail)
      simp [rfs3, roLe]
  | some k =>
    rw [hf] at hp
    simp only [Option.isSome_some] at hp
    obtain ⟨⟨hi, he⟩, hn⟩ := zee hs hf
    have hat := zaV hi
    rw [he] at hat
    simp only [List.cons_append, List.nil_append] at hat
    have hkl := hll k (he ▸ List.getElem_mem hi)
    have hah := ahead_ok k.line (by omega) c
    have hj := join_ok k.line hkl c
    have htk : takeP l name c t w = if (k.holder == c) = true then ([], 0, 7) else if (!w) = true then ([], 0, 8) else
        if hasI k.line c = true then (l, aheadP k.line c, 10) else
        if ((joinP k.line c).2.2 != 0) = true then ([], 0, (joinP k.line c).2.2) else (l.set (posL l name) ⟨k.name, k.holder, k.token, (joinP k.line c).1⟩, (joinP k.line c).2.1, 10) := by
      unfold takeP
      rw [hf]
      simp only [bne_iff_ne]
    generalize takeP l name c t w = R at htk ⊢
    have hset := zcC Lk.enc 4 (fun _ => rfl) hi (k := 3) (by decide) (.sl (joinP k.line c).1.length (intsE (joinP k.line c).1)) ⟨k.name, k.holder, k.token, (joinP k.line c).1⟩ (by rw [he]; rfl)
    repeat' (first | (with_reducible first | refine zaa _ _ ?_ | refine zah ?_ | refine zai ?_) | rw [zae] | simp only [pkS, TyB, hat, hset, rowI, List.drop_succ_cons, List.drop_zero, zax, pkY, Int.reduceEq, bne_self_eq_false, Int.reduceBEq, Int.reduceBNe, implies_true, forall_const, Nat.reduceSub, Nat.reduceEqDiff, Nat.reduceAdd, Nat.reduceMul, Nat.reduceLeDiff, Nat.reduceLT, Nat.reduceBEq, reduceCtorEq] | ((try refine zak ?_); apply zan; (solve | exact (hp) | exact (hco) | exact (hah) | exact (hj) | (refine CallOK.le (hp) ?_; simp [argsLe, aLe, csLe, cLe]) | (refine CallOK.le (hco) ?_; simp [argsLe, aLe, csLe, cLe]) | (refine CallOK.le (hah) ?_; simp [argsLe, aLe, csLe, cLe]) | (refine CallOK.le (hj) ?_; simp [argsLe, aLe, csLe, cLe]))) | (apply zaj; (focus (intro _; (solve | exact (hp) | exact (hco) | exact (hah) | exact (hj) | (refine CallOK.le (hp) ?_; simp [argsLe, aLe, csLe, cLe]) | (refine CallOK.le (hco) ?_; simp [argsLe, aLe, csLe, cLe]) | (refine CallOK.le (hah) ?_; simp [argsLe, aLe, csLe, cLe]) | (refine CallOK.le (hj) ?_; simp [argsLe, aLe, csLe, cLe])))); (focus rfl)) | refine zab ?_ | refine zad (fun hb => ?_) (fun hb => ?_) | (refine And.intro ?_ ?_; focus ((try with_reducible refine zal ?_); first | (with_reducible rfl) | ((with_reducible first | refine zam ?_ | refine zaf ?_ | refine zac ?_); kernel_rfl) | (intros; omega) | (intro q p; rw [q, p]; rfl) | (intro q; rw [q]; rfl) | (intro q; simp only [Bool.and_eq_true, decide_eq_true_eq, beq_iff_eq] at q; omega) | (intros; simp_all; done) | (intros; simp [List.range, List.range.loop]; done) | (intros; simp_all [List.range, List.range.loop]; done))) | refine And.intro (fun hg => ?_) (fun hg => ?_) | (with_reducible refine zac ?_; kernel_rfl) | fail)
    · rw [if_pos hb] at htk; rw [htk]; simp [rfs3, roLe]
    · rename_i h1
      rw [if_neg (by rw [h1]; simp), if_pos hb] at htk; rw [htk]; simp [rfs3, roLe]
    · rename_i h1 h2
      rw [if_neg (by rw [h1]; simp), if_neg (by rw [h2]; simp), if_pos hb] at htk; rw [htk]; simp [rfs3, roLe, aheadP]
    · rename_i h1 h2 h3
      rw [if_neg (by rw [h1]; simp), if_neg (by rw [h2]; simp), if_neg (by rw [h3]; simp), if_pos hb] at htk; rw [htk]; simp [rfs3, roLe]
    · rename_i h1 h2 h3
      rw [if_neg (by rw [h1]; simp), if_neg (by rw [h2]; simp), if_neg (by rw [h3]; simp), if_neg (by rw [hb]; simp)] at htk; rw [htk]; simp [rfs3, roLe]
theorem free_ok (l : List Lk) (hs : SL l) (hl : l.length < 2 ^ 30) (hll : ∀ k ∈ l, k.line.length < 2 ^ 30) (name : ByteArray) (c t : Int) (ht : 0 ≤ t ∧ t < 2 ^ 62) :
    CallOK Try.prog 47 [.f (al l.length (locksE l)), .f (ast name), .f (ai c), .f (ai t)]
    (fun r o => r = [.one (.own 4 (freeP l name c t).1.length (locksE (freeP l name c t).1) false), ri (freeP l name c t).2.1, ri (freeP l name c t).2.2] ∧ o = []) := by
  refine CallOK.nil ?_
  refine zaq zaG mixed (T := Ty) (n := 62) Try.func47 (c := Try.f47.body.getD .skip) rfl Try.results47 Try.ntmps47 Try.call47 ?_
  simp only [Try.f47, Option.getD]
  have hp := zgW l hs (by omega) name
  have hco := zdT l hl hll
  cases hf : findL l name with
  | none =>
    rw [hf] at hp
    simp only [Option.isSome_none] at hp
    have hfr : freeP l name c t = ([], 0, 6) := by unfold freeP; rw [hf]
    rw [hfr]
    repeat' (first | (with_reducible first | refine zaa _ _ ?_ | refine zah ?_ | refine zai ?_) | rw [zae] | simp only [pkS, TyB, zax, pkY, Int.reduceEq, bne_self_eq_false, Int.reduceBEq, Int.reduceBNe, implies_true, forall_const, Nat.reduceSub, Nat.reduceEqDiff, Nat.reduceAdd, Nat.reduceMul, Nat.reduceLeDiff, Nat.reduceLT, Nat.reduceBEq, reduceCtorEq] | ((try refine zak ?_); apply zan; (solve | exact (hp) | (refine CallOK.le (hp) ?_; simp [argsLe, aLe, csLe, cLe]))) | (apply zaj; (focus (intro _; (solve | exact (hp) | (refine CallOK.le (hp) ?_; simp [argsLe, aLe, csLe, cLe])))); (focus rfl)) | refine zab ?_ | refine zad (fun hb => ?_) (fun hb => ?_) | (refine And.intro ?_ ?_; focus ((try with_reducible refine zal ?_); first | (with_reducible rfl) | ((with_reducible first | refine zam ?_ | refine zaf ?_ | refine zac ?_); kernel_rfl) | (intros; omega) | (intro q p; rw [q, p]; rfl) | (intro q; rw [q]; rfl) | (intro q; simp only [Bool.and_eq_true, decide_eq_true_eq, beq_iff_eq] at q; omega) | (intros; simp_all; done) | (intros; simp [List.range, List.range.loop]; done) | (intros; simp_all [List.range, List.range.loop]; done))) | refine And.intro (fun hg => ?_) (fun hg => ?_) | (with_reducible refine zac ?_; kernel_rfl) | fail)
    simp [rfs3, roLe]
  | some k =>
    rw [hf] at hp
    simp only [Option.isSome_some] at hp
    obtain ⟨⟨hi, he⟩, hn⟩ := zee hs hf
    have hat := zaV hi
    rw [he] at hat
    simp only [List.cons_append, List.nil_append] at hat
    have hat1 : (locksE l).drop (posL l name * 4 + 1) = iD k.holder :: iD k.token :: .sl k.line.length (intsE k.line) :: locksE (l.drop (posL l name + 1)) := by rw [← List.drop_drop, hat]; rfl
    have hat3 : (locksE l).drop (posL l name * 4 + 3) = .sl k.line.length (intsE k.line) :: locksE (l.drop (posL l name + 1)) := by rw [← List.drop_drop, hat]; rfl
    have hkl := hll k (he ▸ List.getElem_mem hi)
    have hps := pass_ok l (posL l name) hi hl hll t ht
    rw [he] at hps
    have hlv := leave_ok k.line hkl c
    have hset := zcC Lk.enc 4 (fun _ => rfl) hi (k := 3) (by decide) (.sl (leaveP k.line c).1.length (intsE (leaveP k.line c).1)) ⟨k.name, k.holder, k.token, (leaveP k.line c).1⟩ (by rw [he]; rfl)
    have hlb : (leaveP k.line c).2 = hasI k.line c := by
      unfold leaveP hasI
      have := zdG (fun x => c == x) k.line
      split
      · rename_i h; rw [← this]; simp; omega
      · rename_i h; rw [← this]; simp; omega
    have hfr : freeP l name c t = if (k.holder == c) = true then ((passP l (posL l name) k t).1, (passP l (posL l name) k t).2, 0) else
        if hasI k.line c = true then (l.set (posL l name) ⟨k.name, k.holder, k.token, (leaveP k.line c).1⟩, 0, 0) else ([], 0, 6) := by unfold freeP; rw [hf]
    rw [hfr]
    rw [hlb] at hlv
    cases hh : k.holder == c
    · rw [if_neg (by simp)]
      cases hi : hasI k.line c
      · rw [hi] at hlv
        rw [if_neg (by simp)]
        repeat' (first | (with_reducible first | refine zaa _ _ ?_ | refine zah ?_ | refine zai ?_) | rw [zae] | simp only [pkS, TyB, hat1, hat3, hh, ← List.map_drop, List.map_cons, hset, rowI, zax, pkY, Int.reduceEq, bne_self_eq_false, Int.reduceBEq, Int.reduceBNe, implies_true, forall_const, Nat.reduceSub, Nat.reduceEqDiff, Nat.reduceAdd, Nat.reduceMul, Nat.reduceLeDiff, Nat.reduceLT, Nat.reduceBEq, reduceCtorEq] | ((try refine zak ?_); apply zan; (solve | exact (hp) | exact (hco) | exact (hlv) | (refine CallOK.le (hp) ?_; simp [argsLe, aLe, csLe, cLe]) | (refine CallOK.le (hco) ?_; simp [argsLe, aLe, csLe, cLe]) | (refine CallOK.le (hlv) ?_; simp [argsLe, aLe, csLe, cLe]))) | (apply zaj; (focus (intro _; (solve | exact (hp) | exact (hco) | exact (hlv) | (refine CallOK.le (hp) ?_; simp [argsLe, aLe, csLe, cLe]) | (refine CallOK.le (hco) ?_; simp [argsLe, aLe, csLe, cLe]) | (refine CallOK.le (hlv) ?_; simp [argsLe, aLe, csLe, cLe])))); (focus rfl)) | refine zab ?_ | refine zad (fun hb => ?_) (fun hb => ?_) | (refine And.intro ?_ ?_; focus ((try with_reducible refine zal ?_); first | (with_reducible rfl) | ((with_reducible first | refine zam ?_ | refine zaf ?_ | refine zac ?_); kernel_rfl) | (intros; omega) | (intro q p; rw [q, p]; rfl) | (intro q; rw [q]; rfl) | (intro q; simp only [Bool.and_eq_true, decide_eq_true_eq, beq_iff_eq] at q; omega) | (intros; simp_all; done) | (intros; simp [List.range, List.range.loop]; done) | (intros; simp_all [List.range, List.range.loop]; done))) | refine And.intro (fun hg => ?_) (fun hg => ?_) | (with_reducible refine zac ?_; kernel_rfl) | fail)
        simp [rfs3, roLe]
      · rw [hi] at hlv
        rw [if_pos rfl]
        repeat' (first | (with_reducible first | refine zaa _ _ ?_ | refine zah ?_ | refine zai ?_) | rw [zae] | simp only [pkS, TyB, hat1, hat3, hh, ← List.map_drop, List.map_cons, hset, rowI, zax, pkY, Int.reduceEq, bne_self_eq_false, Int.reduceBEq, Int.reduceBNe, implies_true, forall_const, Nat.reduceSub, Nat.reduceEqDiff, Nat.reduceAdd, Nat.reduceMul, Nat.reduceLeDiff, Nat.reduceLT, Nat.reduceBEq, reduceCtorEq] | ((try refine zak ?_); apply zan; (solve | exact (hp) | exact (hco) | exact (hlv) | (refine CallOK.le (hp) ?_; simp [argsLe, aLe, csLe, cLe]) | (refine CallOK.le (hco) ?_; simp [argsLe, aLe, csLe, cLe]) | (refine CallOK.le (hlv) ?_; simp [argsLe, aLe, csLe, cLe]))) | (apply zaj; (focus (intro _; (solve | exact (hp) | exact (hco) | exact (hlv) | (refine CallOK.le (hp) ?_; simp [argsLe, aLe, csLe, cLe]) | (refine CallOK.le (hco) ?_; simp [argsLe, aLe, csLe, cLe]) | (refine CallOK.le (hlv) ?_; simp [argsLe, aLe, csLe, cLe])))); (focus rfl)) | refine zab ?_ | refine zad (fun hb => ?_) (fun hb => ?_) | (refine And.intro ?_ ?_; focus ((try with_reducible refine zal ?_); first | (with_reducible rfl) | ((with_reducible first | refine zam ?_ | refine zaf ?_ | refine zac ?_); kernel_rfl) | (intros; omega) | (intro q p; rw [q, p]; rfl) | (intro q; rw [q]; rfl) | (intro q; simp only [Bool.and_eq_true, decide_eq_true_eq, beq_iff_eq] at q; omega) | (intros; simp_all; done) | (intros; simp [List.range, List.range.loop]; done) | (intros; simp_all [List.range, List.range.loop]; done))) | refine And.intro (fun hg => ?_) (fun hg => ?_) | (with_reducible refine zac ?_; kernel_rfl) | fail)
        simp [rfs3, roLe]
    · rw [if_pos rfl]
      repeat' (first | (with_reducible first | refine zaa _ _ ?_ | refine zah ?_ | refine zai ?_) | rw [zae] | simp only [pkS, TyB, hat1, hh, ← List.map_drop, List.map_cons, zax, pkY, Int.reduceEq, bne_self_eq_false, Int.reduceBEq, Int.reduceBNe, implies_true, forall_const, Nat.reduceSub, Nat.reduceEqDiff, Nat.reduceAdd, Nat.reduceMul, Nat.reduceLeDiff, Nat.reduceLT, Nat.reduceBEq, reduceCtorEq] | ((try refine zak ?_); apply zan; (solve | exact (hp) | exact (hco) | (refine CallOK.le (hp) ?_; simp [argsLe, aLe, csLe, cLe]) | (refine CallOK.le (hco) ?_; simp [argsLe, aLe, csLe, cLe]))) | (apply zaj; (focus (intro _; (solve | exact (hp) | exact (hco) | (refine CallOK.le (hp) ?_; simp [argsLe, aLe, csLe, cLe]) | (refine CallOK.le (hco) ?_; simp [argsLe, aLe, csLe, cLe])))); (focus rfl)) | refine zab ?_ | refine zad (fun hb => ?_) (fun hb => ?_) | (refine And.intro ?_ ?_; focus ((try with_reducible refine zal ?_); first | (with_reducible rfl) | ((with_reducible first | refine zam ?_ | refine zaf ?_ | refine zac ?_); kernel_rfl) | (intros; omega) | (intro q p; rw [q, p]; rfl) | (intro q; rw [q]; rfl) | (intro q; simp only [Bool.and_eq_true, decide_eq_true_eq, beq_iff_eq] at q; omega) | (intros; simp_all; done) | (intros; simp [List.range, List.range.loop]; done) | (intros; simp_all [List.range, List.range.loop]; done))) | refine And.intro (fun hg => ?_) (fun hg => ?_) | (with_reducible refine zac ?_; kernel_rfl) | fail)
      refine zbb (mv := ?mv3) (lent := ?le3) 0 ?ha3 (hps) ?hb3 ?hc3
      case ha3 => (try simp only [pkS, TyB, zaC, implies_true, forall_const, Nat.reduceSub, Nat.reduceEqDiff, Nat.reduceAdd, Nat.reduceMul, Nat.reduceLeDiff, Nat.reduceLT, Nat.reduceBEq, reduceCtorEq]); exact rfl
      case hb3 => (try simp only [pkS, TyB, scM, implies_true, forall_const, Nat.reduceSub, Nat.reduceEqDiff, Nat.reduceAdd, Nat.reduceMul, Nat.reduceLeDiff, Nat.reduceLT, Nat.reduceBEq, reduceCtorEq]); repeat' (first | rfl | trivial | omega | with_reducible refine And.intro ?_ ?_)
      show aops _ _ _ _ _ _ _ _
      repeat' (first | (with_reducible first | refine zaa _ _ ?_ | refine zah ?_ | refine zai ?_) | rw [zae] | simp only [pkS, TyB, pkY, Int.reduceEq, bne_self_eq_false, Int.reduceBEq, Int.reduceBNe, implies_true, forall_const, Nat.reduceSub, Nat.reduceEqDiff, Nat.reduceAdd, Nat.reduceMul, Nat.reduceLeDiff, Nat.reduceLT, Nat.reduceBEq, reduceCtorEq] | refine zab ?_ | refine zad (fun hb => ?_) (fun hb => ?_) | (refine And.intro ?_ ?_; focus ((try with_reducible refine zal ?_); first | (with_reducible rfl) | ((with_reducible first | refine zam ?_ | refine zaf ?_ | refine zac ?_); kernel_rfl) | (intros; omega) | (intro q p; rw [q, p]; rfl) | (intro q; rw [q]; rfl) | (intro q; simp only [Bool.and_eq_true, decide_eq_true_eq, beq_iff_eq] at q; omega) | (intros; simp_all; done) | (intros; simp [List.range, List.range.loop]; done) | (intros; simp_all [List.range, List.range.loop]; done))) | refine And.intro (fun hg => ?_) (fun hg => ?_) | (with_reducible refine zac ?_; kernel_rfl) | fail)
      simp [rfs3, roLe]
end Go.Proofs.Ytniafckaafcpbaa
