import Derived.Test.YtiegkabcgokhkaaGreatOA
namespace Go.Proofs.YtiegkabcgokhkaaGreat
open Go.Pk
set_option maxRecDepth 100000
set_option linter.unusedSimpArgs false
set_option linter.unusedVariables false
def cmdB (k n : Int) (s : ByteArray) : List D := bytesE [k] ++ (bytesE (numB n) ++ textB s)
theorem zbc (n : Int) : (bytesE (numB n)).length = 8 := rfl
theorem zii (k n : Int) (s : ByteArray) : (cmdB k n s).length = 10 + s.size := by
 unfold cmdB
 rw [List.length_append, List.length_append, zbc, zbP]; simp; omega
theorem zcW {k n : Int} {s : ByteArray} (h : mayP k n s = true) : 1 ≤ k ∧ k ≤ 6 ∧ 0 ≤ n ∧ n ≤ 2305843009213693952 ∧ s.size ≤ 12 := by
 unfold mayP at h
 split at h
 ·cases h
 ·rename_i h1
  split at h
  ·cases h
  ·rename_i h2
   have hk : 1 ≤ k ∧ k ≤ 6 := by simp at h1; omega
   have hn : 0 ≤ n ∧ n ≤ 2305843009213693952 := by
    split at h
    ·simp at h; omega
    ·simp at h; omega
   refine ⟨hk.1, hk.2, hn.1, hn.2, ?_⟩
   cases hc : (k == 3 || k == 4 || k == 5)
   ·simp only [hc, Bool.false_and, Bool.false_or, Bool.not_false, Bool.true_and] at h2
    have : s.toList = (⟨#[]⟩ : ByteArray).toList := by simpa only [Bool.not_eq_true, Bool.not_eq_false', beq_iff_eq] using h2
    have : s.size = 0 := by
     have := congrArg List.length this
     rw [zd6, zd6, Array.length_toList] at this
     exact this
    omega
   ·simp only [hc, Bool.true_and, Bool.not_true, Bool.false_and, Bool.or_false] at h2
    have hn : nameP s = true := by simpa using h2
    unfold nameP at hn
    simp only [Bool.and_eq_true, decide_eq_true_eq] at hn
    omega
theorem zke (k n : Int) (s : ByteArray) (h : mayP k n s = true) : CallOK Tryz.prog 104 [.f (.agg [di k, di n, dS s])] (fun r o => r = [.one (.own 1 (cmdB k n s).length (cmdB k n s) false), ri 0] ∧ o = []) := by
 refine zaq zaB mixed (T := Ty) (n := 36) Tryz.func104 (c := Tryz.f104.body.getD .skip) rfl Tryz.results104 Tryz.ntmps104 Tryz.call104 ?_
 simp only [Tryz.f104, Option.getD]
 obtain ⟨f1, f2, f3, f4, f5⟩ := zcW h
 have hmy := zkj k n s (by omega)
 rw [h] at hmy
 have hpb := zfy k (by omega)
 have hpn := zcD n (by omega)
 have hpt := zfz s (by omega)
 have hcc : CallOK Tryz.prog 105 [.f (al 3 [.sl 1 (bytesE [k]), .sl 8 (bytesE (numB n)), .sl (1 + s.size) (textB s)])] (fun r o => r = [.one (.own 1 (cmdB k n s).length (cmdB k n s) false)] ∧ o = []) := by
  have hc := zdI [bytesE [k], bytesE (numB n), textB s] (by simp) (fun l hl => by
   simp only [List.mem_cons, List.not_mem_nil, or_false] at hl
   rcases hl with rfl | rfl | rfl
   ·simp
   ·rw [zbc]; decide
   ·rw [zbP]; omega)
  rw [show [bytesE [k], bytesE (numB n), textB s].flatten = cmdB k n s from by simp [cmdB]] at hc
  rw [← zbP s]
  exact hc
 have t1 : (bytesE (numB n)).take 8 = bytesE (numB n) := List.take_of_length_le (by rw [zbc]; decide)
 have t2 : (textB s).take (1 + s.size) = textB s := List.take_of_length_le (by rw [zbP]; exact Nat.le_refl _)
 repeat' (first | (with_reducible first | refine zaa _ _ ?_ | refine zaf ?_ | refine zah ?_) | rw [zai] | simp only [pkS, TyB, t1, t2, pkY, Int.reduceEq, bne_self_eq_false, Int.reduceBEq, Int.reduceBNe, implies_true, forall_const, Nat.reduceSub, Nat.reduceEqDiff, Nat.reduceAdd, Nat.reduceMul, Nat.reduceLeDiff, Nat.reduceLT, Nat.reduceBEq, reduceCtorEq] | ((first | ((try refine zal ?_); apply zao) | (apply zam; intro _)); (solve | exact (hmy) | exact (hpb) | exact (hpn) | exact (hpt) | exact (hcc) | (refine CallOK.le (hmy) ?_; simp [argsLe, aLe, csLe, cLe]) | (refine CallOK.le (hpb) ?_; simp [argsLe, aLe, csLe, cLe]) | (refine CallOK.le (hpn) ?_; simp [argsLe, aLe, csLe, cLe]) | (refine CallOK.le (hpt) ?_; simp [argsLe, aLe, csLe, cLe]) | (refine CallOK.le (hcc) ?_; simp [argsLe, aLe, csLe, cLe])); try case hn => rfl) | refine zab ?_ | refine zad (fun hb => ?_) (fun hb => ?_) | (refine And.intro ?_ ?_; focus ((try with_reducible refine zaj ?_); first | (with_reducible rfl) | ((with_reducible first | refine zak ?_ | refine zae ?_ | refine zac ?_); kernel_rfl) | (intros; omega) | (intro q p; rw [q, p]; rfl) | (intro q; rw [q]; rfl) | (intro q; simp only [Bool.and_eq_true, decide_eq_true_eq, beq_iff_eq] at q; omega) | (intros; simp [List.range, List.range.loop]; done) | (intros; simp_all [List.range, List.range.loop]; done))) | refine And.intro (fun hg => ?_) (fun hg => ?_) | (with_reducible refine zac ?_; kernel_rfl) | fail)
def reqB (r : Req) : List D := bytesE [r.client] ++ (bytesE (numB r.seq) ++ cmdB r.kind r.session r.name)
theorem zkf (r : Req) (hr : r.ok) (h : Req.may r = true) : CallOK Tryz.prog 69 [.f (.agg (r.enc.map C.d))] (fun x o => x = [.one (.own 1 (reqB r).length (reqB r) false), ri 0] ∧ o = []) := by
 refine zaq zaB mixed (T := Ty) (n := 36) Tryz.func69 (c := Tryz.f69.body.getD .skip) rfl Tryz.results69 Tryz.ntmps69 Tryz.call69 ?_
 simp only [Tryz.f69, Option.getD]
 have hmy := zg5 r hr
 rw [h] at hmy
 have hf : 0 ≤ r.client ∧ r.client < 8 ∧ 1 ≤ r.seq ∧ r.seq ≤ 2305843009213693952 ∧ mayP r.kind r.session r.name = true := by
  unfold Req.may at h
  have hH : High = 2305843009213693952 := rfl
  simp only [Bool.and_eq_true, decide_eq_true_eq] at h
  exact ⟨h.1.1.1.1, h.1.1.1.2, h.1.1.2, by omega, h.2⟩
 obtain ⟨e1, e2, e3, e4, e5⟩ := hf
 obtain ⟨f1, f2, f3, f4, f5⟩ := zcW e5
 have hcl := zii r.kind r.session r.name
 have hpb := zfy r.client (by omega)
 have hpn := zcD r.seq (by omega)
 have hpt := zke r.kind r.session r.name e5
 have hcc : CallOK Tryz.prog 105 [.f (al 3 [.sl 1 (bytesE [r.client]), .sl 8 (bytesE (numB r.seq)), .sl (cmdB r.kind r.session r.name).length (cmdB r.kind r.session r.name)])] (fun x o => x = [.one (.own 1 (reqB r).length (reqB r) false)] ∧ o = []) := by
  have hc := zdI [bytesE [r.client], bytesE (numB r.seq), cmdB r.kind r.session r.name] (by simp) (fun l hl => by
   simp only [List.mem_cons, List.not_mem_nil, or_false] at hl
   rcases hl with rfl | rfl | rfl
   ·simp
   ·rw [zbc]; decide
   ·omega)
  rw [show [bytesE [r.client], bytesE (numB r.seq), cmdB r.kind r.session r.name].flatten = reqB r from by simp [reqB]] at hc
  exact hc
 have t1 : (bytesE (numB r.seq)).take 8 = bytesE (numB r.seq) := List.take_of_length_le (by rw [zbc]; decide)
 have t2 : (cmdB r.kind r.session r.name).take (cmdB r.kind r.session r.name).length = cmdB r.kind r.session r.name := List.take_length
 repeat' (first | (with_reducible first | refine zaa _ _ ?_ | refine zaf ?_ | refine zah ?_) | rw [zai] | simp only [pkS, TyB, t1, t2, pkY, Int.reduceEq, bne_self_eq_false, Int.reduceBEq, Int.reduceBNe, implies_true, forall_const, Nat.reduceSub, Nat.reduceEqDiff, Nat.reduceAdd, Nat.reduceMul, Nat.reduceLeDiff, Nat.reduceLT, Nat.reduceBEq, reduceCtorEq] | ((first | ((try refine zal ?_); apply zao) | (apply zam; intro _)); (solve | exact (hmy) | exact (hpb) | exact (hpn) | exact (hpt) | exact (hcc) | (refine CallOK.le (hmy) ?_; simp [argsLe, aLe, csLe, cLe]) | (refine CallOK.le (hpb) ?_; simp [argsLe, aLe, csLe, cLe]) | (refine CallOK.le (hpn) ?_; simp [argsLe, aLe, csLe, cLe]) | (refine CallOK.le (hpt) ?_; simp [argsLe, aLe, csLe, cLe]) | (refine CallOK.le (hcc) ?_; simp [argsLe, aLe, csLe, cLe])); try case hn => rfl) | refine zab ?_ | refine zad (fun hb => ?_) (fun hb => ?_) | (refine And.intro ?_ ?_; focus ((try with_reducible refine zaj ?_); first | (with_reducible rfl) | ((with_reducible first | refine zak ?_ | refine zae ?_ | refine zac ?_); kernel_rfl) | (intros; omega) | (intro q p; rw [q, p]; rfl) | (intro q; rw [q]; rfl) | (intro q; simp only [Bool.and_eq_true, decide_eq_true_eq, beq_iff_eq] at q; omega) | (intros; simp [List.range, List.range.loop]; done) | (intros; simp_all [List.range, List.range.loop]; done))) | refine And.intro (fun hg => ?_) (fun hg => ?_) | (with_reducible refine zac ?_; kernel_rfl) | fail)
end Go.Proofs.YtiegkabcgokhkaaGreat
