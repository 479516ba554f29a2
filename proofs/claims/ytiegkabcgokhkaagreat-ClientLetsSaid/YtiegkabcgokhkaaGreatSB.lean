import Derived.Test.YtiegkabcgokhkaaGreatSA
namespace Go.Proofs.YtiegkabcgokhkaaGreat
open Go.Pk
set_option maxRecDepth 100000
set_option linter.unusedSimpArgs false
set_option linter.unusedVariables false
def isEnd (a : Cm) : Bool := a.kind == 5 || a.kind == 6
def dwA (l : List Cm) : List Cm := l.dropWhile isEnd
theorem zmY : dwA [] = [] := rfl
theorem zko {a : Cm} {l : List Cm} (h : isEnd a = true) : dwA (a :: l) = dwA l := by unfold dwA; rw [List.dropWhile_cons, if_pos h]
theorem znE {a : Cm} {l : List Cm} (h : isEnd a = false) : dwA (a :: l) = a :: l := by unfold dwA; rw [List.dropWhile_cons, if_neg (by rw [h]; simp)]
abbrev objC (K : Cl) (l : List Cm) (e nx : Nat) : Nat × RS := (0, { next := nx, l := [some { e := 0, var := true, fz := false, bor := true, sz := 0, cells := [di K.c.replicas, di K.c.clients, di K.c.lease, di K.c.rho, di K.c.base, di K.c.cap, di K.c.beat, di K.c.wait, di K.c.sweep, di K.c.retry, di K.c.keep,
 di K.id, di K.session, .d (.sl K.has.length (grantsE K.has)), di K.till, .own ⟨0, 16, e⟩ 0 l.length, db K.busy,
 di K.out.client, di K.out.seq, di K.out.kind, di K.out.session, dS K.out.name, di K.first, db K.sent, di K.last, di K.seq, di K.turn] }, none, none, none, none, none, none, none, none, none, none, none, none, none, none, none,
 some { e := e, var := false, fz := false, bor := true, sz := 3, cells := (cmsE l).map C.d }, none, none, none, none, none, none, none, none, none, none, none] })
set_option maxHeartbeats 1000000 in
theorem zlq (K : Cl) (now : Int) (hs : K.session = 0) (hL : K.asks.length ≤ 4) :
  CallOK Tryz.prog 38 [.obj K.ro, .f (ai now)] (fun r o => r = [.agg [.d (iD 1), .d (iD 0), .d (sD .empty)], rb (decide (((dwA K.asks).length : Int) > 0))] ∧ o = [({ K with asks := dwA K.asks } : Cl).ro]) := by
 refine CallOK.leR ?_
 refine zaq zaB mixed (T := Ty) (n := 85) Tryz.func38 (c := Tryz.f38.body.getD .skip) rfl Tryz.results38 Tryz.ntmps38 Tryz.call38 ?_
 simp only [Tryz.f38, Option.getD]
 have h2 : (K.session == 0) = true := by rw [hs]; rfl
 repeat' (first | (with_reducible first | refine zaa _ _ ?_ | refine zaf ?_ | refine zah ?_) | rw [zai] | simp only [pkS, TyB, h2, pkY, Int.reduceEq, bne_self_eq_false, Int.reduceBEq, Int.reduceBNe, implies_true, forall_const, Nat.reduceSub, Nat.reduceEqDiff, Nat.reduceAdd, Nat.reduceMul, Nat.reduceLeDiff, Nat.reduceLT, Nat.reduceBEq, reduceCtorEq] | refine zab ?_ | refine zad (fun hb => ?_) (fun hb => ?_) | (refine And.intro ?_ ?_; focus ((try with_reducible refine zaj ?_); first | (with_reducible rfl) | ((with_reducible first | refine zak ?_ | refine zae ?_ | refine zac ?_); kernel_rfl) | (intros; omega) | (intro q p; rw [q, p]; rfl) | (intro q; rw [q]; rfl) | (intro q; simp only [Bool.and_eq_true, decide_eq_true_eq, beq_iff_eq] at q; omega) | (intros; simp [List.range, List.range.loop]; done) | (intros; simp_all [List.range, List.range.loop]; done))) | refine And.intro (fun hg => ?_) (fun hg => ?_) | (with_reducible refine zac ?_; kernel_rfl) | fail)
 refine zaU (τ := List Cm × Nat × Nat) (fun t => ⟨[.one (.ptr ⟨0, 0, 0⟩ 0), dd, dd, dd, .one (.ptr ⟨4, 0, 1⟩ 0), dd, dd, dd, dd, dd, dd, dd, dd, dd, dd, dd, dd, dd, dd, dd, dd, dd, dd, dd, dd, dd, dd, dd, dd, dd, dd, dd, dd, dd, dd, dd, dd, dd, dd, dd, dd, dd, dd, dd, dd, dd, dd, dd, dd, dd, dd, dd, dd, dd, dd, dd, dd, dd, dd, dd, dd, dd, dd, dd, dd, dd, dd, dd, dd, dd, dd, dd, dd, dd, dd, dd, dd, dd, dd, dd, dd, dd, dd, dd, dd], [objC K t.1 t.2.1 t.2.2, (4, { next := 2, l := [some { e := 1, var := true, fz := false, sz := 0, cells := [di 0, di 0, dS .empty] }, none, none, none] })]⟩)
  (fun t => t.1.length ≤ 4) (fun t => dwA t.1) (fun t => t.1.length) (K.asks, 0, 1)
  (Gh.canon [0, 4] [] [0] (by simp only [zar, zaC, zas, zau, zav, zaw, List.set_cons_zero, List.set_cons_succ, and_true, true_and, Int.natCast_zero, Int.cast_ofNat_Int, D.v.injEq, Value.int.injEq]; try (repeat' (first | rfl | omega | with_reducible apply And.intro))) rfl rfl) hL ?_
 intro ⟨l, e, nx⟩ hL0 hF Kx hK
 simp only at hL0 hF hK ⊢
 cases l with
 | nil =>
  rw [zmY] at hF
  have h1 : decide (((0 : Nat) : Int) > 0) = false := rfl
  rw [← hF]
  repeat' (first | (with_reducible first | refine zaa _ _ ?_ | refine zaf ?_ | refine zah ?_) | rw [zai] | simp only [pkS, TyB, h1, List.length_nil, pkY, Int.reduceEq, bne_self_eq_false, Int.reduceBEq, Int.reduceBNe, implies_true, forall_const, Nat.reduceSub, Nat.reduceEqDiff, Nat.reduceAdd, Nat.reduceMul, Nat.reduceLeDiff, Nat.reduceLT, Nat.reduceBEq, reduceCtorEq] | refine zab ?_ | refine zad (fun hb => ?_) (fun hb => ?_) | (refine And.intro ?_ ?_; focus ((try with_reducible refine zaj ?_); first | (with_reducible rfl) | ((with_reducible first | refine zak ?_ | refine zae ?_ | refine zac ?_); kernel_rfl) | (intros; omega) | (intro q p; rw [q, p]; rfl) | (intro q; rw [q]; rfl) | (intro q; simp only [Bool.and_eq_true, decide_eq_true_eq, beq_iff_eq] at q; omega) | (intros; simp [List.range, List.range.loop]; done) | (intros; simp_all [List.range, List.range.loop]; done))) | refine And.intro (fun hg => ?_) (fun hg => ?_) | (with_reducible refine zac ?_; kernel_rfl) | fail)
  refine ⟨zax, ?_⟩
  simp [objsB, rosB, roB]
 | cons a l =>
  have hen := zhw a.kind
  have h1 : decide (((l.length + 1 : Nat) : Int) > 0) = true := by simp
  have hat : cmsE (a :: l) = iD a.kind :: iD a.session :: sD a.name :: cmsE l := rfl
  have hl3 : ((cmsE l).length + 1 + 1 + 1 = (a :: l).length * 3) = True := eq_true (by rw [zce, List.length_cons]; omega)
  cases he : isEnd a
  ·rw [znE he] at hF
   unfold isEnd at he
   rw [he] at hen
   rw [← hF]
   repeat' (first | (with_reducible first | refine zaa _ _ ?_ | refine zaf ?_ | refine zah ?_) | rw [zai] | simp only [pkS, TyB, h1, List.drop_zero, hat, hl3, pkY, Int.reduceEq, bne_self_eq_false, Int.reduceBEq, Int.reduceBNe, implies_true, forall_const, Nat.reduceSub, Nat.reduceEqDiff, Nat.reduceAdd, Nat.reduceMul, Nat.reduceLeDiff, Nat.reduceLT, Nat.reduceBEq, reduceCtorEq] | ((first | ((try refine zal ?_); apply zao) | (apply zam; intro _)); (solve | exact (hen) | (refine CallOK.le (hen) ?_; simp [argsLe, aLe, csLe, cLe])); try case hn => rfl) | refine zab ?_ | refine zad (fun hb => ?_) (fun hb => ?_) | (refine And.intro ?_ ?_; focus ((try with_reducible refine zaj ?_); first | (with_reducible rfl) | ((with_reducible first | refine zak ?_ | refine zae ?_ | refine zac ?_); kernel_rfl) | (intros; omega) | (intro q p; rw [q, p]; rfl) | (intro q; rw [q]; rfl) | (intro q; simp only [Bool.and_eq_true, decide_eq_true_eq, beq_iff_eq] at q; omega) | (intros; simp [List.range, List.range.loop]; done) | (intros; simp_all [List.range, List.range.loop]; done))) | refine And.intro (fun hg => ?_) (fun hg => ?_) | (with_reducible refine zac ?_; kernel_rfl) | fail)
   refine ⟨⟨zdi, by simp [rfB, roB, h1], trivial⟩, ?_⟩
   simp [objsB, rosB, roB]
  ·unfold isEnd at he
   rw [he] at hen
   rw [zko (show isEnd a = true from he)] at hF
   repeat' (first | (with_reducible first | refine zaa _ _ ?_ | refine zaf ?_ | refine zah ?_) | rw [zai] | simp only [pkS, TyB, h1, List.drop_zero, hat, hl3, Nat.add_sub_cancel, pkY, Int.reduceEq, bne_self_eq_false, Int.reduceBEq, Int.reduceBNe, implies_true, forall_const, Nat.reduceSub, Nat.reduceEqDiff, Nat.reduceAdd, Nat.reduceMul, Nat.reduceLeDiff, Nat.reduceLT, Nat.reduceBEq, reduceCtorEq] | ((first | ((try refine zal ?_); apply zao) | (apply zam; intro _)); (solve | exact (hen) | (refine CallOK.le (hen) ?_; simp [argsLe, aLe, csLe, cLe])); try case hn => rfl) | refine zab ?_ | refine zad (fun hb => ?_) (fun hb => ?_) | (refine And.intro ?_ ?_; focus ((try with_reducible refine zaj ?_); first | (with_reducible rfl) | ((with_reducible first | refine zak ?_ | refine zae ?_ | refine zac ?_); kernel_rfl) | (intros; omega) | (intro q p; rw [q, p]; rfl) | (intro q; rw [q]; rfl) | (intro q; simp only [Bool.and_eq_true, decide_eq_true_eq, beq_iff_eq] at q; omega) | (intros; simp [List.range, List.range.loop]; done) | (intros; simp_all [List.range, List.range.loop]; done))) | refine And.intro (fun hg => ?_) (fun hg => ?_) | (with_reducible refine zac ?_; kernel_rfl) | fail)
   refine hK _ (l, nx, nx + 1) ((Gh.shiftF 0 15 1 l.length ?_).trans (Gh.canon [0, 4] [] [0] (by simp only [zar, zaC, zas, zau, zav, zaw, List.set_cons_zero, List.set_cons_succ, and_true, true_and, Int.natCast_zero, Int.cast_ofNat_Int, D.v.injEq, Value.int.injEq]; try (repeat' (first | rfl | omega | with_reducible apply And.intro))) rfl rfl)) ?_ ?_ ?_
   ·exact ⟨rfl, rfl, rfl⟩
   ·simp only [List.length_cons] at hL0 ⊢; omega
   ·exact (zko (show isEnd a = true from he)).symm
   ·simp only [List.length_cons]; omega
theorem zlr (K : Cl) (now : Int) (a : Cm) (l : List Cm) (hs : (K.session == 0) = false) (ha : K.asks = a :: l) (hL : K.asks.length ≤ 4) :
  CallOK Tryz.prog 38 [.f K.at, .f (ai now)] (fun r o => r = [.agg [.d (iD a.kind), .d (iD K.session), .d (sD a.name)], rb true] ∧ o = []) := by
 refine zaq zaB mixed (T := Ty) (n := 85) Tryz.func38 (c := Tryz.f38.body.getD .skip) rfl Tryz.results38 Tryz.ntmps38 Tryz.call38 ?_
 simp only [Tryz.f38, Option.getD]
 have h1 : decide ((K.asks.length : Int) > 0) = true := by rw [ha]; simp
 have hat : cmsE K.asks = iD a.kind :: iD a.session :: sD a.name :: cmsE l := by rw [ha]; rfl
 have hl3 : ((cmsE l).length + 1 + 1 + 1 = K.asks.length * 3) = True := eq_true (by rw [zce, ha, List.length_cons]; omega)
 repeat' (first | (with_reducible first | refine zaa _ _ ?_ | refine zaf ?_ | refine zah ?_) | rw [zai] | simp only [pkS, TyB, hs, h1, List.drop_zero, hat, hl3, pkY, Int.reduceEq, bne_self_eq_false, Int.reduceBEq, Int.reduceBNe, implies_true, forall_const, Nat.reduceSub, Nat.reduceEqDiff, Nat.reduceAdd, Nat.reduceMul, Nat.reduceLeDiff, Nat.reduceLT, Nat.reduceBEq, reduceCtorEq] | refine zab ?_ | refine zad (fun hb => ?_) (fun hb => ?_) | (refine And.intro ?_ ?_; focus ((try with_reducible refine zaj ?_); first | (with_reducible rfl) | ((with_reducible first | refine zak ?_ | refine zae ?_ | refine zac ?_); kernel_rfl) | (intros; omega) | (intro q p; rw [q, p]; rfl) | (intro q; rw [q]; rfl) | (intro q; simp only [Bool.and_eq_true, decide_eq_true_eq, beq_iff_eq] at q; omega) | (intros; simp [List.range, List.range.loop]; done) | (intros; simp_all [List.range, List.range.loop]; done))) | refine And.intro (fun hg => ?_) (fun hg => ?_) | (with_reducible refine zac ?_; kernel_rfl) | fail)
def keepB (K : Cl) (now : Int) : Bool := !K.sent || decide (now - K.last ≥ K.c.keep)
def goQ (K : Cl) (now : Int) (k n : Int) (s : ByteArray) : Cl := { K with seq := K.seq + 1, busy := true, first := now, out := ⟨K.id, K.seq + 1, k, n, s⟩, sent := true, last := now }
theorem znF (K : Cl) (k n : Int) (s : ByteArray) (hq : 0 ≤ K.seq ∧ K.seq < 2 ^ 60) (hid : 0 ≤ K.id ∧ K.id < 8) (hm : mayP k n s = true) : Req.may ⟨K.id, K.seq + 1, k, n, s⟩ = true ∧ (⟨K.id, K.seq + 1, k, n, s⟩ : Req).ok := by
 obtain ⟨f1, f2, f3, f4, f5⟩ := zcW hm
 have hH : High = 2305843009213693952 := rfl
 refine ⟨?_, by simp only [i64]; omega, by simp only [i64]; omega, by simp only [i64]; omega, by simp only [i64]; omega, by simp only; omega⟩
 unfold Req.may
 simp only [hm, hH, Bool.and_true, Bool.and_eq_true, decide_eq_true_eq]
 omega
theorem zls (K : Cl) (now : Int) (h0 : 0 ≤ now ∧ now ≤ 2305843009213693952) (hs : K.session = 0) (hL : K.asks.length ≤ 4) (hb : K.busy = false) (hq : 0 ≤ K.seq ∧ K.seq < 2 ^ 60) (hid : 0 ≤ K.id ∧ K.id < 8) :
  CallOK Tryz.prog 13 [.obj K.ro, .f (ai now)] (fun r o =>
   r = (if (dwA K.asks).length > 0 then [.one (.own 2 1 (sendsC (goQ { K with asks := dwA K.asks } now 1 0 .empty)) false)] else [.one (.d (.v (.slice none 0 0)))]) ∧
   o = [(if (dwA K.asks).length > 0 then goQ { K with asks := dwA K.asks } now 1 0 .empty else { K with asks := dwA K.asks }).ro]) := by
 refine CallOK.leR ?_
 refine zaq zaB mixed (T := Ty) (n := 82) Tryz.func13 (c := Tryz.f13.body.getD .skip) rfl Tryz.results13 Tryz.ntmps13 Tryz.call13 ?_
 simp only [Tryz.f13, Option.getD]
 have h3 : IntKind.i64.wrap (K.seq + 1) = K.seq + 1 := wrap64 (by omega) (by omega)
 obtain ⟨hmr, hrk⟩ := znF K 1 0 .empty hq hid (by unfold mayP; simp)
 have hnx := zlq { K with busy := false } now hs hL
 cases hd : decide (((dwA K.asks).length : Int) > 0)
 ·rw [if_neg (by simpa using hd), if_neg (by simpa using hd)]
  simp only [hd] at hnx
  repeat' (first | (with_reducible first | refine zaa _ _ ?_ | refine zaf ?_ | refine zah ?_) | rw [zai] | simp only [pkS, TyB, hb, pkY, Int.reduceEq, bne_self_eq_false, Int.reduceBEq, Int.reduceBNe, implies_true, forall_const, Nat.reduceSub, Nat.reduceEqDiff, Nat.reduceAdd, Nat.reduceMul, Nat.reduceLeDiff, Nat.reduceLT, Nat.reduceBEq, reduceCtorEq] | ((first | ((try refine zal ?_); apply zao) | (apply zam; intro _)); (solve | exact (zcm now h0) | (refine CallOK.le (zcm now h0) ?_; simp [argsLe, aLe, csLe, cLe])); try case hn => rfl) | refine zab ?_ | refine zad (fun hb => ?_) (fun hb => ?_) | (refine And.intro ?_ ?_; focus ((try with_reducible refine zaj ?_); first | (with_reducible rfl) | ((with_reducible first | refine zak ?_ | refine zae ?_ | refine zac ?_); kernel_rfl) | (intros; omega) | (intro q p; rw [q, p]; rfl) | (intro q; rw [q]; rfl) | (intro q; simp only [Bool.and_eq_true, decide_eq_true_eq, beq_iff_eq] at q; omega) | (intros; simp [List.range, List.range.loop]; done) | (intros; simp_all [List.range, List.range.loop]; done))) | refine And.intro (fun hg => ?_) (fun hg => ?_) | (with_reducible refine zac ?_; kernel_rfl) | fail)
  refine zbw (mv := ?mv1) (lent := ?le1) 0 ?ha1 (hnx) ?hb1 ?hc1
  case ha1 => (try simp only [pkS, TyB, zaH, implies_true, forall_const, Nat.reduceSub, Nat.reduceEqDiff, Nat.reduceAdd, Nat.reduceMul, Nat.reduceLeDiff, Nat.reduceLT, Nat.reduceBEq, reduceCtorEq]); exact rfl
  case hb1 => (try simp only [pkS, TyB, scM, implies_true, forall_const, Nat.reduceSub, Nat.reduceEqDiff, Nat.reduceAdd, Nat.reduceMul, Nat.reduceLeDiff, Nat.reduceLT, Nat.reduceBEq, reduceCtorEq]); repeat' (first | rfl | trivial | omega | with_reducible refine And.intro ?_ ?_)
  show aops _ _ _ _ _ _ _ _
  repeat' (first | (with_reducible first | refine zaa _ _ ?_ | refine zaf ?_ | refine zah ?_) | rw [zai] | simp only [pkS, TyB, pkY, Int.reduceEq, bne_self_eq_false, Int.reduceBEq, Int.reduceBNe, implies_true, forall_const, Nat.reduceSub, Nat.reduceEqDiff, Nat.reduceAdd, Nat.reduceMul, Nat.reduceLeDiff, Nat.reduceLT, Nat.reduceBEq, reduceCtorEq] | refine zab ?_ | refine zad (fun hb => ?_) (fun hb => ?_) | (refine And.intro ?_ ?_; focus ((try with_reducible refine zaj ?_); first | (with_reducible rfl) | ((with_reducible first | refine zak ?_ | refine zae ?_ | refine zac ?_); kernel_rfl) | (intros; omega) | (intro q p; rw [q, p]; rfl) | (intro q; rw [q]; rfl) | (intro q; simp only [Bool.and_eq_true, decide_eq_true_eq, beq_iff_eq] at q; omega) | (intros; simp [List.range, List.range.loop]; done) | (intros; simp_all [List.range, List.range.loop]; done))) | refine And.intro (fun hg => ?_) (fun hg => ?_) | (with_reducible refine zac ?_; kernel_rfl) | fail)
  refine ⟨zax, ?_⟩
  simp [objsB, rosB, roB, hb]
 ·have hgt : (dwA K.asks).length > 0 := by simpa using hd
  rw [if_pos hgt, if_pos hgt]
  simp only [hd] at hnx
  have hsd := zin { K with asks := dwA K.asks, seq := K.seq + 1, busy := true, first := now, out := ⟨K.id, K.seq + 1, 1, 0, .empty⟩ } now hrk hmr
  repeat' (first | (with_reducible first | refine zaa _ _ ?_ | refine zaf ?_ | refine zah ?_) | rw [zai] | simp only [pkS, TyB, hb, pkY, Int.reduceEq, bne_self_eq_false, Int.reduceBEq, Int.reduceBNe, implies_true, forall_const, Nat.reduceSub, Nat.reduceEqDiff, Nat.reduceAdd, Nat.reduceMul, Nat.reduceLeDiff, Nat.reduceLT, Nat.reduceBEq, reduceCtorEq] | ((first | ((try refine zal ?_); apply zao) | (apply zam; intro _)); (solve | exact (zcm now h0) | (refine CallOK.le (zcm now h0) ?_; simp [argsLe, aLe, csLe, cLe])); try case hn => rfl) | refine zab ?_ | refine zad (fun hb => ?_) (fun hb => ?_) | (refine And.intro ?_ ?_; focus ((try with_reducible refine zaj ?_); first | (with_reducible rfl) | ((with_reducible first | refine zak ?_ | refine zae ?_ | refine zac ?_); kernel_rfl) | (intros; omega) | (intro q p; rw [q, p]; rfl) | (intro q; rw [q]; rfl) | (intro q; simp only [Bool.and_eq_true, decide_eq_true_eq, beq_iff_eq] at q; omega) | (intros; simp [List.range, List.range.loop]; done) | (intros; simp_all [List.range, List.range.loop]; done))) | refine And.intro (fun hg => ?_) (fun hg => ?_) | (with_reducible refine zac ?_; kernel_rfl) | fail)
  refine zbw (mv := ?mv2) (lent := ?le2) 0 ?ha2 (hnx) ?hb2 ?hc2
  case ha2 => (try simp only [pkS, TyB, zaH, implies_true, forall_const, Nat.reduceSub, Nat.reduceEqDiff, Nat.reduceAdd, Nat.reduceMul, Nat.reduceLeDiff, Nat.reduceLT, Nat.reduceBEq, reduceCtorEq]); exact rfl
  case hb2 => (try simp only [pkS, TyB, scM, implies_true, forall_const, Nat.reduceSub, Nat.reduceEqDiff, Nat.reduceAdd, Nat.reduceMul, Nat.reduceLeDiff, Nat.reduceLT, Nat.reduceBEq, reduceCtorEq]); repeat' (first | rfl | trivial | omega | with_reducible refine And.intro ?_ ?_)
  show aops _ _ _ _ _ _ _ _
  repeat' (first | (with_reducible first | refine zaa _ _ ?_ | refine zaf ?_ | refine zah ?_) | rw [zai] | simp only [pkS, TyB, h3, pkY, Int.reduceEq, bne_self_eq_false, Int.reduceBEq, Int.reduceBNe, implies_true, forall_const, Nat.reduceSub, Nat.reduceEqDiff, Nat.reduceAdd, Nat.reduceMul, Nat.reduceLeDiff, Nat.reduceLT, Nat.reduceBEq, reduceCtorEq] | refine zab ?_ | refine zad (fun hb => ?_) (fun hb => ?_) | (refine And.intro ?_ ?_; focus ((try with_reducible refine zaj ?_); first | (with_reducible rfl) | ((with_reducible first | refine zak ?_ | refine zae ?_ | refine zac ?_); kernel_rfl) | (intros; omega) | (intro q p; rw [q, p]; rfl) | (intro q; rw [q]; rfl) | (intro q; simp only [Bool.and_eq_true, decide_eq_true_eq, beq_iff_eq] at q; omega) | (intros; simp [List.range, List.range.loop]; done) | (intros; simp_all [List.range, List.range.loop]; done))) | refine And.intro (fun hg => ?_) (fun hg => ?_) | (with_reducible refine zac ?_; kernel_rfl) | fail)
  refine zbw (mv := ?mv3) (lent := ?le3) 0 ?ha3 (hsd) ?hb3 ?hc3
  case ha3 => (try simp only [pkS, TyB, zaH, zaJ, implies_true, forall_const, Nat.reduceSub, Nat.reduceEqDiff, Nat.reduceAdd, Nat.reduceMul, Nat.reduceLeDiff, Nat.reduceLT, Nat.reduceBEq, reduceCtorEq]); exact rfl
  case hb3 => (try simp only [pkS, TyB, scM, zaJ, implies_true, forall_const, Nat.reduceSub, Nat.reduceEqDiff, Nat.reduceAdd, Nat.reduceMul, Nat.reduceLeDiff, Nat.reduceLT, Nat.reduceBEq, reduceCtorEq]); repeat' (first | rfl | trivial | omega | with_reducible refine And.intro ?_ ?_)
  show aops _ _ _ _ _ _ _ _
  repeat' (first | (with_reducible first | refine zaa _ _ ?_ | refine zaf ?_ | refine zah ?_) | rw [zai] | simp only [pkS, TyB, pkY, Int.reduceEq, bne_self_eq_false, Int.reduceBEq, Int.reduceBNe, implies_true, forall_const, Nat.reduceSub, Nat.reduceEqDiff, Nat.reduceAdd, Nat.reduceMul, Nat.reduceLeDiff, Nat.reduceLT, Nat.reduceBEq, reduceCtorEq] | refine zab ?_ | refine zad (fun hb => ?_) (fun hb => ?_) | (refine And.intro ?_ ?_; focus ((try with_reducible refine zaj ?_); first | (with_reducible rfl) | ((with_reducible first | refine zak ?_ | refine zae ?_ | refine zac ?_); kernel_rfl) | (intros; omega) | (intro q p; rw [q, p]; rfl) | (intro q; rw [q]; rfl) | (intro q; simp only [Bool.and_eq_true, decide_eq_true_eq, beq_iff_eq] at q; omega) | (intros; simp [List.range, List.range.loop]; done) | (intros; simp_all [List.range, List.range.loop]; done))) | refine And.intro (fun hg => ?_) (fun hg => ?_) | (with_reducible refine zac ?_; kernel_rfl) | fail)
  exact ⟨rfl, zax, zaA⟩
theorem zim (K : Cl) (now : Int) (a : Cm) (l : List Cm) (h0 : 0 ≤ now ∧ now ≤ 2305843009213693952) (hs : (K.session == 0) = false) (ha : K.asks = a :: l) (hL : K.asks.length ≤ 4) (hb : K.busy = false) (hq : 0 ≤ K.seq ∧ K.seq < 2 ^ 60) (hid : 0 ≤ K.id ∧ K.id < 8)
  (hm : mayP a.kind K.session a.name = true) :
  CallOK Tryz.prog 13 [.obj K.ro, .f (ai now)] (fun r o => r = [.one (.own 2 1 (sendsC (goQ K now a.kind K.session a.name)) false)] ∧ o = [(goQ K now a.kind K.session a.name).ro]) := by
 refine CallOK.leR ?_
 refine zaq zaB mixed (T := Ty) (n := 82) Tryz.func13 (c := Tryz.f13.body.getD .skip) rfl Tryz.results13 Tryz.ntmps13 Tryz.call13 ?_
 simp only [Tryz.f13, Option.getD]
 have h3 : IntKind.i64.wrap (K.seq + 1) = K.seq + 1 := wrap64 (by omega) (by omega)
 obtain ⟨hmr, hrk⟩ := znF K a.kind K.session a.name hq hid hm
 have hnx := zlr { K with busy := false } now a l hs ha hL
 have hsd := zin { K with seq := K.seq + 1, busy := true, first := now, out := ⟨K.id, K.seq + 1, a.kind, K.session, a.name⟩ } now hrk hmr
 repeat' (first | (with_reducible first | refine zaa _ _ ?_ | refine zaf ?_ | refine zah ?_) | rw [zai] | simp only [pkS, TyB, hb, h3, zaJ, pkY, Int.reduceEq, bne_self_eq_false, Int.reduceBEq, Int.reduceBNe, implies_true, forall_const, Nat.reduceSub, Nat.reduceEqDiff, Nat.reduceAdd, Nat.reduceMul, Nat.reduceLeDiff, Nat.reduceLT, Nat.reduceBEq, reduceCtorEq] | ((first | ((try refine zal ?_); apply zao) | (apply zam; intro _)); (solve | exact (zcm now h0) | exact (hnx) | (refine CallOK.le (zcm now h0) ?_; simp [argsLe, aLe, csLe, cLe]) | (refine CallOK.le (hnx) ?_; simp [argsLe, aLe, csLe, cLe])); try case hn => rfl) | refine zab ?_ | refine zad (fun hb => ?_) (fun hb => ?_) | (refine And.intro ?_ ?_; focus ((try with_reducible refine zaj ?_); first | (with_reducible rfl) | ((with_reducible first | refine zak ?_ | refine zae ?_ | refine zac ?_); kernel_rfl) | (intros; omega) | (intro q p; rw [q, p]; rfl) | (intro q; rw [q]; rfl) | (intro q; simp only [Bool.and_eq_true, decide_eq_true_eq, beq_iff_eq] at q; omega) | (intros; simp [List.range, List.range.loop]; done) | (intros; simp_all [List.range, List.range.loop]; done))) | refine And.intro (fun hg => ?_) (fun hg => ?_) | (with_reducible refine zac ?_; kernel_rfl) | fail)
 refine zbw (mv := ?mv4) (lent := ?le4) 0 ?ha4 (hsd) ?hb4 ?hc4
 case ha4 => (try simp only [pkS, TyB, zaH, zaJ, implies_true, forall_const, Nat.reduceSub, Nat.reduceEqDiff, Nat.reduceAdd, Nat.reduceMul, Nat.reduceLeDiff, Nat.reduceLT, Nat.reduceBEq, reduceCtorEq]); exact rfl
 case hb4 => (try simp only [pkS, TyB, scM, zaJ, implies_true, forall_const, Nat.reduceSub, Nat.reduceEqDiff, Nat.reduceAdd, Nat.reduceMul, Nat.reduceLeDiff, Nat.reduceLT, Nat.reduceBEq, reduceCtorEq]); repeat' (first | rfl | trivial | omega | with_reducible refine And.intro ?_ ?_)
 show aops _ _ _ _ _ _ _ _
 repeat' (first | (with_reducible first | refine zaa _ _ ?_ | refine zaf ?_ | refine zah ?_) | rw [zai] | simp only [pkS, TyB, pkY, Int.reduceEq, bne_self_eq_false, Int.reduceBEq, Int.reduceBNe, implies_true, forall_const, Nat.reduceSub, Nat.reduceEqDiff, Nat.reduceAdd, Nat.reduceMul, Nat.reduceLeDiff, Nat.reduceLT, Nat.reduceBEq, reduceCtorEq] | refine zab ?_ | refine zad (fun hb => ?_) (fun hb => ?_) | (refine And.intro ?_ ?_; focus ((try with_reducible refine zaj ?_); first | (with_reducible rfl) | ((with_reducible first | refine zak ?_ | refine zae ?_ | refine zac ?_); kernel_rfl) | (intros; omega) | (intro q p; rw [q, p]; rfl) | (intro q; rw [q]; rfl) | (intro q; simp only [Bool.and_eq_true, decide_eq_true_eq, beq_iff_eq] at q; omega) | (intros; simp [List.range, List.range.loop]; done) | (intros; simp_all [List.range, List.range.loop]; done))) | refine And.intro (fun hg => ?_) (fun hg => ?_) | (with_reducible refine zac ?_; kernel_rfl) | fail)
 exact ⟨rfl, zax, zaA⟩
end Go.Proofs.YtiegkabcgokhkaaGreat
