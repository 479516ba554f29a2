import Derived.Test.YtiegkabcgokhkaaGreatRM
namespace Go.Proofs.YtiegkabcgokhkaaGreat
open Go.Pk
set_option maxRecDepth 100000
set_option linter.unusedSimpArgs false
set_option linter.unusedVariables false
theorem ziq : ∀ {a : List UInt8}, Go.Op.bytesLess a a = false
 | [] => rfl
 | a :: x => by rw [Go.Op.bytesLess, ziq (a := x)]; simp
theorem zir : ∀ {a b c : List UInt8}, Go.Op.bytesLess a b = true → Go.Op.bytesLess b c = true → Go.Op.bytesLess a c = true
 | [], [], _, h, _ => by cases h
 | [], _ :: _, [], _, h => by cases h
 | [], _ :: _, _ :: _, _, _ => rfl
 | _ :: _, [], _, h, _ => by cases h
 | _ :: _, _ :: _, [], _, h => by cases h
 | a :: x, b :: y, c :: z, h1, h2 => by
  rw [Go.Op.bytesLess] at *
  simp only [Bool.or_eq_true, Bool.and_eq_true, decide_eq_true_eq, beq_iff_eq] at *
  rcases h1 with h1 | ⟨rfl, h1⟩ <;> rcases h2 with h2 | ⟨rfl, h2⟩
  ·exact .inl (UInt8.lt_trans h1 h2)
  ·exact .inl h1
  ·exact .inl h2
  ·exact .inr ⟨rfl, zir h1 h2⟩
theorem zis {a b : List UInt8} (h : Go.Op.bytesLess a b = true) : Go.Op.bytesLess b a = false := by
 cases hc : Go.Op.bytesLess b a
 ·rfl
 ·have := zir h hc
  rw [ziq] at this; cases this
theorem zd1 {α : Type} {q : Nat → α → Bool} : ∀ {l : List α} {j : Nat}, checkP q j l = true → ∀ (i : Nat) (hi : i < l.length), q (j + i) l[i] = true
 | [], _, _, i, hi => by cases hi
 | a :: l, j, h, i, hi => by
  rw [checkP] at h
  split at h
  ·rename_i hq
   cases i with
   | zero => exact hq
   | succ i =>
    have := zd1 h i (by simpa using hi)
    rw [show j + (i + 1) = j + 1 + i from by omega]
    exact this
  ·cases h
theorem zea {l : List Grant} {i : Nat} {g : Grant} (h : grantQ l i g = true) : nameP g.name = true ∧ 1 ≤ g.token ∧ g.token ≤ 2305843009213693952 ∧ (0 < i → bLess (prevG l i) g.name = true) := by
 unfold grantQ at h
 have hH : High = 2305843009213693952 := rfl
 simp only [Bool.not_eq_true', Bool.or_eq_false_iff, decide_eq_false_iff_not, hH, Bool.and_eq_false_imp, decide_eq_true_eq, Bool.not_eq_false'] at h
 obtain ⟨⟨⟨h1, h2⟩, h3⟩, h4⟩ := h
 refine ⟨by simpa using h1, by omega, by omega, fun hi => by simpa using h4 hi⟩
set_option maxHeartbeats 1000000 in
theorem zcE (r : Reply) (h : replyB r = true) : CallOK Tryz.prog 154 [.f (.agg r.lent)] (fun x o => x = [rb true] ∧ o = []) := by
 obtain ⟨f1, f2, f3, f4, f5⟩ := za6 h
 have hgr := za7 h
 have hB : (decide ((r.held.length : Int) > 4) || ((r.session == 0) && decide ((r.held.length : Int) > 0))) = false := by
  unfold replyB at h
  simp only [Bool.and_eq_true, Bool.not_eq_true'] at h
  exact h.1.2
 simp only [Bool.or_eq_false_iff] at hB
 obtain ⟨hB1, hB2⟩ := hB
 refine zaq zaB mixed (T := Ty) (n := 84) Tryz.func154 (c := Tryz.f154.body.getD .skip) rfl Tryz.results154 Tryz.ntmps154 Tryz.call154 ?_
 simp only [Tryz.f154, Option.getD]
 have g1 : decide (r.code < 0) = false := by simp; omega
 have g2 : decide (r.code > 12) = false := by simp; omega
 have g3 : decide (r.session ≥ 0) = true := by simp; omega
 have g4 : decide (r.session ≤ 2305843009213693952) = true := by simp; omega
 have g5 : decide (r.ahead < 0) = false := by simp; omega
 have g6 : decide (r.ahead > 3) = false := by simp; omega
 have hh := zer r.session 0
 rw [g3, g4] at hh
 cases hs : (r.session == 0)
 ·repeat' (first | (with_reducible first | refine zaa _ _ ?_ | refine zaf ?_ | refine zah ?_) | rw [zai] | simp only [pkS, TyB, g1, g2, g5, g6, hB1, hs, Bool.and_true, pkY, Int.reduceEq, bne_self_eq_false, Int.reduceBEq, Int.reduceBNe, implies_true, forall_const, Nat.reduceSub, Nat.reduceEqDiff, Nat.reduceAdd, Nat.reduceMul, Nat.reduceLeDiff, Nat.reduceLT, Nat.reduceBEq, reduceCtorEq] | ((first | ((try refine zal ?_); apply zao) | (apply zam; intro _)); (solve | exact (hh) | (refine CallOK.le (hh) ?_; simp [argsLe, aLe, csLe, cLe])); try case hn => rfl) | refine zab ?_ | refine zad (fun hb => ?_) (fun hb => ?_) | (refine And.intro ?_ ?_; focus ((try with_reducible refine zaj ?_); first | (with_reducible rfl) | ((with_reducible first | refine zak ?_ | refine zae ?_ | refine zac ?_); kernel_rfl) | (intros; omega) | (intro q p; rw [q, p]; rfl) | (intro q; rw [q]; rfl) | (intro q; simp only [Bool.and_eq_true, decide_eq_true_eq, beq_iff_eq] at q; omega) | (intros; simp [List.range, List.range.loop]; done) | (intros; simp_all [List.range, List.range.loop]; done))) | refine And.intro (fun hg => ?_) (fun hg => ?_) | (with_reducible refine zac ?_; kernel_rfl) | fail)
  refine zaU (τ := Nat) (fun i => ⟨[dd, .one (.ptr ⟨1, 0, 1⟩ 0), dd, ai i, dd, dd, dd, dd, dd, dd, dd, dd, dd, dd, dd, dd, dd, dd, dd, dd, dd, dd, dd, dd, dd, dd, dd, dd, dd, dd, dd, dd, dd, dd, dd, dd, dd, dd, dd, dd, dd, dd, dd, dd, dd, dd, dd, dd, dd, dd, dd, dd, dd, dd, dd, dd, dd, dd, dd, dd, dd, dd, dd, dd, dd, dd, dd, dd, dd, dd, dd, dd, dd, dd, dd, dd, dd, dd, dd, dd, dd, dd, dd, dd], [(1, { next := 2, l := [some { e := 1, var := true, fz := false, sz := 0, cells := [di r.code, di r.session, di r.ahead, .lent r.held.length (grantsE r.held)] }, none, none, none, none] }), (4, ⟨2, []⟩)]⟩)
   (fun i => i ≤ r.held.length) (fun _ => ()) (fun i => r.held.length - i) 0
   (Gh.canon [1] [4] [] (by simp only [zar, zaC, zas, zau, zav, zaw, List.set_cons_zero, List.set_cons_succ, and_true, true_and, Int.natCast_zero, Int.cast_ofNat_Int, D.v.injEq, Value.int.injEq]; try (repeat' (first | rfl | omega | with_reducible apply And.intro))) rfl rfl) (Nat.zero_le _) ?_
  intro i hi0 hF K hK
  repeat (first | with_reducible refine zaa _ _ ?_ | with_reducible refine And.imp_right (zaa _ _) ?_ | with_reducible refine And.imp_right (And.imp_right (zaa _ _)) ?_ | with_reducible refine And.imp_right (And.imp_right (And.imp_right (zaa _ _))) ?_ | rw [zai] | simp only [pkS, TyB,  implies_true, forall_const, Nat.reduceSub, Nat.reduceEqDiff, Nat.reduceAdd, Nat.reduceMul, Nat.reduceLeDiff, Nat.reduceLT, Nat.reduceBEq, reduceCtorEq])
  refine zad (fun hlt => ?_) (fun hge => ?_)
  ·have hi : i < r.held.length := by simpa using hlt
   have hat := zaQ hi
   have hw := za0 hi (by omega)
   have hq := zd1 f5 i hi
   rw [Nat.zero_add] at hq
   obtain ⟨q1, q2, q3, q4⟩ := zea hq
   have hnm := zit r.held[i].name (by have := (hgr _ (List.getElem_mem hi)).1; omega)
   rw [q1] at hnm
   have hhg := zer r.held[i].token 1
   rw [show decide (r.held[i].token ≥ 1) = true from by simp; omega, show decide (r.held[i].token ≤ 2305843009213693952) = true from by simp; omega] at hhg
   cases e0 : decide ((i : Int) > 0)
   ·have h0 : i = 0 := by simpa using e0
    have hp : (grantsE r.held).drop ((IntKind.i64.wrap ((i : Int) - 1)).toNat * 2) = r.held[i].enc ++ grantsE (r.held.drop (i + 1)) := by
     rw [← zaQ hi, h0]; rfl
    repeat' (first | (with_reducible first | refine zaa _ _ ?_ | refine zaf ?_ | refine zah ?_) | rw [zai] | simp only [pkS, TyB, hat, hp, e0, List.cons_append, List.nil_append, zaE, Bool.and_true, pkY, Int.reduceEq, bne_self_eq_false, Int.reduceBEq, Int.reduceBNe, implies_true, forall_const, Nat.reduceSub, Nat.reduceEqDiff, Nat.reduceAdd, Nat.reduceMul, Nat.reduceLeDiff, Nat.reduceLT, Nat.reduceBEq, reduceCtorEq] | ((first | ((try refine zal ?_); apply zao) | (apply zam; intro _)); (solve | exact (hnm) | exact (hhg) | (refine CallOK.le (hnm) ?_; simp [argsLe, aLe, csLe, cLe]) | (refine CallOK.le (hhg) ?_; simp [argsLe, aLe, csLe, cLe])); try case hn => rfl) | refine zab ?_ | refine zad (fun hb => ?_) (fun hb => ?_) | (refine And.intro ?_ ?_; focus ((try with_reducible refine zaj ?_); first | (with_reducible rfl) | ((with_reducible first | refine zak ?_ | refine zae ?_ | refine zac ?_); kernel_rfl) | (intros; omega) | (intro q p; rw [q, p]; rfl) | (intro q; rw [q]; rfl) | (intro q; simp only [Bool.and_eq_true, decide_eq_true_eq, beq_iff_eq] at q; omega) | (intros; simp [List.range, List.range.loop]; done) | (intros; simp_all [List.range, List.range.loop]; done))) | refine And.intro (fun hg => ?_) (fun hg => ?_) | (with_reducible refine zac ?_; kernel_rfl) | fail)
    exact hK _ (i + 1) (Gh.canon [1] [] [] (by simp only [hw, zar, zaC, zas, zau, zav, zaw, List.set_cons_zero, List.set_cons_succ, and_true, true_and, Int.natCast_zero, Int.cast_ofNat_Int, D.v.injEq, Value.int.injEq]; try (repeat' (first | rfl | omega | with_reducible apply And.intro))) rfl rfl) hi rfl (by omega)
   ·have h0 : 0 < i := by simpa using e0
    have hw1 : IntKind.i64.wrap ((i : Int) - 1) = ((i - 1 : Nat) : Int) := by rw [wrap64 (by omega) (by omega)]; omega
    have hlt1 : decide (((i - 1 : Nat) : Int) < (r.held.length : Int)) = true := by simp; omega
    have hp := zaQ (l := r.held) (i := i - 1) (by omega)
    have hb : bLess (r.held[i - 1]'(by omega)).name r.held[i].name = true := by
     have := q4 h0
     unfold prevG at this
     rw [List.getElem?_eq_getElem (by omega)] at this
     exact this
    have hb1 := zis hb
    have hb2 : (r.held[i].name.toList == (r.held[i - 1]'(by omega)).name.toList) = false := by
     rw [beq_eq_false_iff_ne]
     intro he
     rw [bLess, he, ziq] at hb
     cases hb
    repeat' (first | (with_reducible first | refine zaa _ _ ?_ | refine zaf ?_ | refine zah ?_) | rw [zai] | simp only [pkS, TyB, hat, hp, hw1, e0, hb1, hb2, List.cons_append, List.nil_append, zaE, Bool.and_true, Int.toNat_natCast, pkY, Int.reduceEq, bne_self_eq_false, Int.reduceBEq, Int.reduceBNe, implies_true, forall_const, Nat.reduceSub, Nat.reduceEqDiff, Nat.reduceAdd, Nat.reduceMul, Nat.reduceLeDiff, Nat.reduceLT, Nat.reduceBEq, reduceCtorEq] | ((first | ((try refine zal ?_); apply zao) | (apply zam; intro _)); (solve | exact (hnm) | exact (hhg) | (refine CallOK.le (hnm) ?_; simp [argsLe, aLe, csLe, cLe]) | (refine CallOK.le (hhg) ?_; simp [argsLe, aLe, csLe, cLe])); try case hn => rfl) | refine zab ?_ | refine zad (fun hb => ?_) (fun hb => ?_) | (refine And.intro ?_ ?_; focus ((try with_reducible refine zaj ?_); first | (with_reducible rfl) | ((with_reducible first | refine zak ?_ | refine zae ?_ | refine zac ?_); kernel_rfl) | (intros; omega) | (intro q p; rw [q, p]; rfl) | (intro q; rw [q]; rfl) | (intro q; simp only [Bool.and_eq_true, decide_eq_true_eq, beq_iff_eq] at q; omega) | (intros; simp [List.range, List.range.loop]; done) | (intros; simp_all [List.range, List.range.loop]; done))) | refine And.intro (fun hg => ?_) (fun hg => ?_) | (with_reducible refine zac ?_; kernel_rfl) | fail)
    exact hK _ (i + 1) (Gh.canon [1] [] [] (by simp only [hw, zar, zaC, zas, zau, zav, zaw, List.set_cons_zero, List.set_cons_succ, and_true, true_and, Int.natCast_zero, Int.cast_ofNat_Int, D.v.injEq, Value.int.injEq]; try (repeat' (first | rfl | omega | with_reducible apply And.intro))) rfl rfl) hi rfl (by omega)
  ·have hi : i = r.held.length := by
    have : ¬ (i : Int) < r.held.length := by simpa using hge
    omega
   repeat' (first | (with_reducible first | refine zaa _ _ ?_ | refine zaf ?_ | refine zah ?_) | rw [zai] | simp only [pkS, TyB, pkY, Int.reduceEq, bne_self_eq_false, Int.reduceBEq, Int.reduceBNe, implies_true, forall_const, Nat.reduceSub, Nat.reduceEqDiff, Nat.reduceAdd, Nat.reduceMul, Nat.reduceLeDiff, Nat.reduceLT, Nat.reduceBEq, reduceCtorEq] | refine zab ?_ | refine zad (fun hb => ?_) (fun hb => ?_) | (refine And.intro ?_ ?_; focus ((try with_reducible refine zaj ?_); first | (with_reducible rfl) | ((with_reducible first | refine zak ?_ | refine zae ?_ | refine zac ?_); kernel_rfl) | (intros; omega) | (intro q p; rw [q, p]; rfl) | (intro q; rw [q]; rfl) | (intro q; simp only [Bool.and_eq_true, decide_eq_true_eq, beq_iff_eq] at q; omega) | (intros; simp [List.range, List.range.loop]; done) | (intros; simp_all [List.range, List.range.loop]; done))) | refine And.intro (fun hg => ?_) (fun hg => ?_) | (with_reducible refine zac ?_; kernel_rfl) | fail)
 ·have h0 : decide ((r.held.length : Int) > 0) = false := by rw [hs, Bool.true_and] at hB2; exact hB2
  repeat' (first | (with_reducible first | refine zaa _ _ ?_ | refine zaf ?_ | refine zah ?_) | rw [zai] | simp only [pkS, TyB, g1, g2, g5, g6, hB1, hs, h0, Bool.and_true, pkY, Int.reduceEq, bne_self_eq_false, Int.reduceBEq, Int.reduceBNe, implies_true, forall_const, Nat.reduceSub, Nat.reduceEqDiff, Nat.reduceAdd, Nat.reduceMul, Nat.reduceLeDiff, Nat.reduceLT, Nat.reduceBEq, reduceCtorEq] | ((first | ((try refine zal ?_); apply zao) | (apply zam; intro _)); (solve | exact (hh) | (refine CallOK.le (hh) ?_; simp [argsLe, aLe, csLe, cLe])); try case hn => rfl) | refine zab ?_ | refine zad (fun hb => ?_) (fun hb => ?_) | (refine And.intro ?_ ?_; focus ((try with_reducible refine zaj ?_); first | (with_reducible rfl) | ((with_reducible first | refine zak ?_ | refine zae ?_ | refine zac ?_); kernel_rfl) | (intros; omega) | (intro q p; rw [q, p]; rfl) | (intro q; rw [q]; rfl) | (intro q; simp only [Bool.and_eq_true, decide_eq_true_eq, beq_iff_eq] at q; omega) | (intros; simp [List.range, List.range.loop]; done) | (intros; simp_all [List.range, List.range.loop]; done))) | refine And.intro (fun hg => ?_) (fun hg => ?_) | (with_reducible refine zac ?_; kernel_rfl) | fail)
  refine zaU (τ := Nat) (fun i => ⟨[dd, .one (.ptr ⟨1, 0, 1⟩ 0), dd, ai i, dd, dd, dd, dd, dd, dd, dd, dd, dd, dd, dd, dd, dd, dd, dd, dd, dd, dd, dd, dd, dd, dd, dd, dd, dd, dd, dd, dd, dd, dd, dd, dd, dd, dd, dd, dd, dd, dd, dd, dd, dd, dd, dd, dd, dd, dd, dd, dd, dd, dd, dd, dd, dd, dd, dd, dd, dd, dd, dd, dd, dd, dd, dd, dd, dd, dd, dd, dd, dd, dd, dd, dd, dd, dd, dd, dd, dd, dd, dd, dd], [(1, { next := 2, l := [some { e := 1, var := true, fz := false, sz := 0, cells := [di r.code, di r.session, di r.ahead, .lent r.held.length (grantsE r.held)] }, none, none, none, none] }), (4, ⟨2, []⟩)]⟩)
   (fun i => i ≤ r.held.length) (fun _ => ()) (fun i => r.held.length - i) 0
   (Gh.canon [1] [4] [] (by simp only [zar, zaC, zas, zau, zav, zaw, List.set_cons_zero, List.set_cons_succ, and_true, true_and, Int.natCast_zero, Int.cast_ofNat_Int, D.v.injEq, Value.int.injEq]; try (repeat' (first | rfl | omega | with_reducible apply And.intro))) rfl rfl) (Nat.zero_le _) ?_
  intro i hi0 hF K hK
  repeat (first | with_reducible refine zaa _ _ ?_ | with_reducible refine And.imp_right (zaa _ _) ?_ | with_reducible refine And.imp_right (And.imp_right (zaa _ _)) ?_ | with_reducible refine And.imp_right (And.imp_right (And.imp_right (zaa _ _))) ?_ | rw [zai] | simp only [pkS, TyB,  implies_true, forall_const, Nat.reduceSub, Nat.reduceEqDiff, Nat.reduceAdd, Nat.reduceMul, Nat.reduceLeDiff, Nat.reduceLT, Nat.reduceBEq, reduceCtorEq])
  refine zad (fun hlt => ?_) (fun hge => ?_)
  ·have hi : i < r.held.length := by simpa using hlt
   have hat := zaQ hi
   have hw := za0 hi (by omega)
   have hq := zd1 f5 i hi
   rw [Nat.zero_add] at hq
   obtain ⟨q1, q2, q3, q4⟩ := zea hq
   have hnm := zit r.held[i].name (by have := (hgr _ (List.getElem_mem hi)).1; omega)
   rw [q1] at hnm
   have hhg := zer r.held[i].token 1
   rw [show decide (r.held[i].token ≥ 1) = true from by simp; omega, show decide (r.held[i].token ≤ 2305843009213693952) = true from by simp; omega] at hhg
   cases e0 : decide ((i : Int) > 0)
   ·have h0 : i = 0 := by simpa using e0
    have hp : (grantsE r.held).drop ((IntKind.i64.wrap ((i : Int) - 1)).toNat * 2) = r.held[i].enc ++ grantsE (r.held.drop (i + 1)) := by
     rw [← zaQ hi, h0]; rfl
    repeat' (first | (with_reducible first | refine zaa _ _ ?_ | refine zaf ?_ | refine zah ?_) | rw [zai] | simp only [pkS, TyB, hat, hp, e0, List.cons_append, List.nil_append, zaE, Bool.and_true, pkY, Int.reduceEq, bne_self_eq_false, Int.reduceBEq, Int.reduceBNe, implies_true, forall_const, Nat.reduceSub, Nat.reduceEqDiff, Nat.reduceAdd, Nat.reduceMul, Nat.reduceLeDiff, Nat.reduceLT, Nat.reduceBEq, reduceCtorEq] | ((first | ((try refine zal ?_); apply zao) | (apply zam; intro _)); (solve | exact (hnm) | exact (hhg) | (refine CallOK.le (hnm) ?_; simp [argsLe, aLe, csLe, cLe]) | (refine CallOK.le (hhg) ?_; simp [argsLe, aLe, csLe, cLe])); try case hn => rfl) | refine zab ?_ | refine zad (fun hb => ?_) (fun hb => ?_) | (refine And.intro ?_ ?_; focus ((try with_reducible refine zaj ?_); first | (with_reducible rfl) | ((with_reducible first | refine zak ?_ | refine zae ?_ | refine zac ?_); kernel_rfl) | (intros; omega) | (intro q p; rw [q, p]; rfl) | (intro q; rw [q]; rfl) | (intro q; simp only [Bool.and_eq_true, decide_eq_true_eq, beq_iff_eq] at q; omega) | (intros; simp [List.range, List.range.loop]; done) | (intros; simp_all [List.range, List.range.loop]; done))) | refine And.intro (fun hg => ?_) (fun hg => ?_) | (with_reducible refine zac ?_; kernel_rfl) | fail)
    exact hK _ (i + 1) (Gh.canon [1] [] [] (by simp only [hw, zar, zaC, zas, zau, zav, zaw, List.set_cons_zero, List.set_cons_succ, and_true, true_and, Int.natCast_zero, Int.cast_ofNat_Int, D.v.injEq, Value.int.injEq]; try (repeat' (first | rfl | omega | with_reducible apply And.intro))) rfl rfl) hi rfl (by omega)
   ·have h0 : 0 < i := by simpa using e0
    have hw1 : IntKind.i64.wrap ((i : Int) - 1) = ((i - 1 : Nat) : Int) := by rw [wrap64 (by omega) (by omega)]; omega
    have hlt1 : decide (((i - 1 : Nat) : Int) < (r.held.length : Int)) = true := by simp; omega
    have hp := zaQ (l := r.held) (i := i - 1) (by omega)
    have hb : bLess (r.held[i - 1]'(by omega)).name r.held[i].name = true := by
     have := q4 h0
     unfold prevG at this
     rw [List.getElem?_eq_getElem (by omega)] at this
     exact this
    have hb1 := zis hb
    have hb2 : (r.held[i].name.toList == (r.held[i - 1]'(by omega)).name.toList) = false := by
     rw [beq_eq_false_iff_ne]
     intro he
     rw [bLess, he, ziq] at hb
     cases hb
    repeat' (first | (with_reducible first | refine zaa _ _ ?_ | refine zaf ?_ | refine zah ?_) | rw [zai] | simp only [pkS, TyB, hat, hp, hw1, e0, hb1, hb2, List.cons_append, List.nil_append, zaE, Bool.and_true, Int.toNat_natCast, pkY, Int.reduceEq, bne_self_eq_false, Int.reduceBEq, Int.reduceBNe, implies_true, forall_const, Nat.reduceSub, Nat.reduceEqDiff, Nat.reduceAdd, Nat.reduceMul, Nat.reduceLeDiff, Nat.reduceLT, Nat.reduceBEq, reduceCtorEq] | ((first | ((try refine zal ?_); apply zao) | (apply zam; intro _)); (solve | exact (hnm) | exact (hhg) | (refine CallOK.le (hnm) ?_; simp [argsLe, aLe, csLe, cLe]) | (refine CallOK.le (hhg) ?_; simp [argsLe, aLe, csLe, cLe])); try case hn => rfl) | refine zab ?_ | refine zad (fun hb => ?_) (fun hb => ?_) | (refine And.intro ?_ ?_; focus ((try with_reducible refine zaj ?_); first | (with_reducible rfl) | ((with_reducible first | refine zak ?_ | refine zae ?_ | refine zac ?_); kernel_rfl) | (intros; omega) | (intro q p; rw [q, p]; rfl) | (intro q; rw [q]; rfl) | (intro q; simp only [Bool.and_eq_true, decide_eq_true_eq, beq_iff_eq] at q; omega) | (intros; simp [List.range, List.range.loop]; done) | (intros; simp_all [List.range, List.range.loop]; done))) | refine And.intro (fun hg => ?_) (fun hg => ?_) | (with_reducible refine zac ?_; kernel_rfl) | fail)
    exact hK _ (i + 1) (Gh.canon [1] [] [] (by simp only [hw, zar, zaC, zas, zau, zav, zaw, List.set_cons_zero, List.set_cons_succ, and_true, true_and, Int.natCast_zero, Int.cast_ofNat_Int, D.v.injEq, Value.int.injEq]; try (repeat' (first | rfl | omega | with_reducible apply And.intro))) rfl rfl) hi rfl (by omega)
  ·have hi : i = r.held.length := by
    have : ¬ (i : Int) < r.held.length := by simpa using hge
    omega
   repeat' (first | (with_reducible first | refine zaa _ _ ?_ | refine zaf ?_ | refine zah ?_) | rw [zai] | simp only [pkS, TyB, pkY, Int.reduceEq, bne_self_eq_false, Int.reduceBEq, Int.reduceBNe, implies_true, forall_const, Nat.reduceSub, Nat.reduceEqDiff, Nat.reduceAdd, Nat.reduceMul, Nat.reduceLeDiff, Nat.reduceLT, Nat.reduceBEq, reduceCtorEq] | refine zab ?_ | refine zad (fun hb => ?_) (fun hb => ?_) | (refine And.intro ?_ ?_; focus ((try with_reducible refine zaj ?_); first | (with_reducible rfl) | ((with_reducible first | refine zak ?_ | refine zae ?_ | refine zac ?_); kernel_rfl) | (intros; omega) | (intro q p; rw [q, p]; rfl) | (intro q; rw [q]; rfl) | (intro q; simp only [Bool.and_eq_true, decide_eq_true_eq, beq_iff_eq] at q; omega) | (intros; simp [List.range, List.range.loop]; done) | (intros; simp_all [List.range, List.range.loop]; done))) | refine And.intro (fun hg => ?_) (fun hg => ?_) | (with_reducible refine zac ?_; kernel_rfl) | fail)
end Go.Proofs.YtiegkabcgokhkaaGreat
