import Derived.Test.YtiegkabcgokhkaaGreatRJ
namespace Go.Proofs.YtiegkabcgokhkaaGreat
open Go.Pk
set_option maxRecDepth 100000
set_option linter.unusedSimpArgs false
set_option linter.unusedVariables false
theorem zd2 {r : Reply} (h : replyB r = true) : (replyI r).length ≤ 95 := by
 have hgr := za7 h
 have hf := (za6 h).2.2.2.1
 have := zci (l := r.held) (k := 12) fun g hg => (hgr g hg).1
 have e : (replyI r).length = 11 + (grantsI r.held).length := by simp [replyI, zbf]; omega
 omega
theorem zch {m : Memo} (h : answerB m = true) : (answerI m).length ≤ 104 := by
 have := zd2 (zaX h).2.2
 have e : (answerI m).length = 9 + (replyI m.reply).length := by simp [answerI, zbf]; omega
 omega
theorem zde {m : Memo} (h : answerB m = true) : replyOk m.reply := by
 have hgr := za7 (zaX h).2.2
 have hf := (za6 (zaX h).2.2).2.2.2.1
 exact ⟨by omega, fun g hg => by have := (hgr g hg).1; omega⟩
theorem zhd (m : Memo) (h : answerB m = true) : CallOK Tryz.prog 70 [.f (.agg m.lent)] (fun x o => x = [.one (.own 1 (answerI m).length (bytesE (answerI m)) false), ri 0] ∧ o = []) := by
 refine zaq zaB mixed (T := Ty) (n := 31) Tryz.func70 (c := Tryz.f70.body.getD .skip) rfl Tryz.results70 Tryz.ntmps70 Tryz.call70 ?_
 simp only [Tryz.f70, Option.getD]
 obtain ⟨f1, f2, f3⟩ := zaX h
 have hmy := zcG m (zde h)
 rw [h] at hmy
 have hpn := zcD m.seq (by omega)
 have hpr := zhD m.reply f3
 have hrl := zd2 f3
 have w1 : IntKind.u8.wrap m.client = m.client := zdc (by omega) (by omega)
 have hcc : CallOK Tryz.prog 105 [.f (al 3 [.sl 1 (bytesE [m.client]), .sl 8 (bytesE (numB m.seq)), .sl (replyI m.reply).length (bytesE (replyI m.reply))])] (fun x o => x = [.one (.own 1 (answerI m).length (bytesE (answerI m)) false)] ∧ o = []) := by
  have hc := zdI [bytesE [m.client], bytesE (numB m.seq), bytesE (replyI m.reply)] (by simp) (fun l hl => by
   simp only [List.mem_cons, List.not_mem_nil, or_false] at hl
   rcases hl with rfl | rfl | rfl
   ·simp
   ·rw [zbc]; decide
   ·rw [List.length_map]; omega)
  rw [show [bytesE [m.client], bytesE (numB m.seq), bytesE (replyI m.reply)].flatten = bytesE (answerI m) from by simp [answerI, bytesE]] at hc
  simp only [catE, List.map_cons, List.map_nil, List.length_map, List.length_cons, List.length_nil, zbf] at hc
  exact hc
 have t1 : (bytesE (numB m.seq)).take 8 = bytesE (numB m.seq) := List.take_of_length_le (by rw [zbc]; decide)
 have t2 : (bytesE (replyI m.reply)).take (replyI m.reply).length = bytesE (replyI m.reply) := List.take_of_length_le (by rw [List.length_map]; exact Nat.le_refl _)
 repeat' (first | (with_reducible first | refine zaa _ _ ?_ | refine zaf ?_ | refine zah ?_) | rw [zai] | simp only [pkS, TyB, t1, t2, w1, pkY, Int.reduceEq, bne_self_eq_false, Int.reduceBEq, Int.reduceBNe, implies_true, forall_const, Nat.reduceSub, Nat.reduceEqDiff, Nat.reduceAdd, Nat.reduceMul, Nat.reduceLeDiff, Nat.reduceLT, Nat.reduceBEq, reduceCtorEq] | ((first | ((try refine zal ?_); apply zao) | (apply zam; intro _)); (solve | exact (hmy) | exact (hpn) | exact (hpr) | exact (hcc) | (refine CallOK.le (hmy) ?_; simp [argsLe, aLe, csLe, cLe]) | (refine CallOK.le (hpn) ?_; simp [argsLe, aLe, csLe, cLe]) | (refine CallOK.le (hpr) ?_; simp [argsLe, aLe, csLe, cLe]) | (refine CallOK.le (hcc) ?_; simp [argsLe, aLe, csLe, cLe])); try case hn => rfl) | refine zab ?_ | refine zad (fun hb => ?_) (fun hb => ?_) | (refine And.intro ?_ ?_; focus ((try with_reducible refine zaj ?_); first | (with_reducible rfl) | ((with_reducible first | refine zak ?_ | refine zae ?_ | refine zac ?_); kernel_rfl) | (intros; omega) | (intro q p; rw [q, p]; rfl) | (intro q; rw [q]; rfl) | (intro q; simp only [Bool.and_eq_true, decide_eq_true_eq, beq_iff_eq] at q; omega) | (intros; simp [List.range, List.range.loop]; done) | (intros; simp_all [List.range, List.range.loop]; done))) | refine And.intro (fun hg => ?_) (fun hg => ?_) | (with_reducible refine zac ?_; kernel_rfl) | fail)
abbrev pkM (m : Memo) : List C := [di 2, di 0, di 0, di 0, di 0, di 0, di 0, di 0, dS .empty, di m.client, di m.seq, di m.reply.code, di m.reply.session, di m.reply.ahead, .lent m.reply.held.length (grantsE m.reply.held),
 db false, di 0, di 0, di 0, di 0, dn, di 0, di 0, di 0, di 0, di 0, dn, di 0, di 0, di 0, di 0, di 0, di 0, dn, dn, dn]
abbrev pkMD (m : Memo) : List D := [iD 2, iD 0, iD 0, iD 0, iD 0, iD 0, iD 0, iD 0, sD .empty, iD m.client, iD m.seq, iD m.reply.code, iD m.reply.session, iD m.reply.ahead, .sl m.reply.held.length (grantsE m.reply.held),
 bD false, iD 0, iD 0, iD 0, iD 0, .v (.slice none 0 0), iD 0, iD 0, iD 0, iD 0, iD 0, .v (.slice none 0 0), iD 0, iD 0, iD 0, iD 0, iD 0, iD 0, .v (.slice none 0 0), .v (.slice none 0 0), .v (.slice none 0 0)]
abbrev pkRD (r : Req) : List D := [iD 1, iD 0, iD 0, iD 0, iD r.client, iD r.seq, iD r.kind, iD r.session, sD r.name, iD 0, iD 0, iD 0, iD 0, iD 0, .v (.slice none 0 0),
 bD false, iD 0, iD 0, iD 0, iD 0, .v (.slice none 0 0), iD 0, iD 0, iD 0, iD 0, iD 0, .v (.slice none 0 0), iD 0, iD 0, iD 0, iD 0, iD 0, iD 0, .v (.slice none 0 0), .v (.slice none 0 0), .v (.slice none 0 0)]
theorem zhB (m : Memo) (h : answerB m = true) : CallOK Tryz.prog 68 [.f (.agg (pkM m))] (fun x o => x = [rb true] ∧ o = []) := by
 refine zaq zaB mixed (T := Ty) (n := 91) Tryz.func68 (c := Tryz.f68.body.getD .skip) rfl Tryz.results68 Tryz.ntmps68 Tryz.call68 ?_
 simp only [Tryz.f68, Option.getD]
 have hmy := zcG m (zde h)
 rw [h] at hmy
 repeat' (first | (with_reducible first | refine zaa _ _ ?_ | refine zaf ?_ | refine zah ?_) | rw [zai] | simp only [pkS, TyB, pkY, Int.reduceEq, bne_self_eq_false, Int.reduceBEq, Int.reduceBNe, implies_true, forall_const, Nat.reduceSub, Nat.reduceEqDiff, Nat.reduceAdd, Nat.reduceMul, Nat.reduceLeDiff, Nat.reduceLT, Nat.reduceBEq, reduceCtorEq] | ((first | ((try refine zal ?_); apply zao) | (apply zam; intro _)); (solve | exact (hmy) | exact (zeq 2) | (refine CallOK.le (hmy) ?_; simp [argsLe, aLe, csLe, cLe]) | (refine CallOK.le (zeq 2) ?_; simp [argsLe, aLe, csLe, cLe])); try case hn => rfl) | refine zab ?_ | refine zad (fun hb => ?_) (fun hb => ?_) | (refine And.intro ?_ ?_; focus ((try with_reducible refine zaj ?_); first | (with_reducible rfl) | ((with_reducible first | refine zak ?_ | refine zae ?_ | refine zac ?_); kernel_rfl) | (intros; omega) | (intro q p; rw [q, p]; rfl) | (intro q; rw [q]; rfl) | (intro q; simp only [Bool.and_eq_true, decide_eq_true_eq, beq_iff_eq] at q; omega) | (intros; simp [List.range, List.range.loop]; done) | (intros; simp_all [List.range, List.range.loop]; done))) | refine And.intro (fun hg => ?_) (fun hg => ?_) | (with_reducible refine zac ?_; kernel_rfl) | fail)
theorem zhC (m : Memo) (h : answerB m = true) : CallOK Tryz.prog 41 [.f (.agg (pkM m))] (fun x o => x = [.one (.own 1 (packAI m).length (bytesE (packAI m)) false), ri 0] ∧ o = []) := by
 refine zaq zaB mixed (T := Ty) (n := 87) Tryz.func41 (c := Tryz.f41.body.getD .skip) rfl Tryz.results41 Tryz.ntmps41 Tryz.call41 ?_
 simp only [Tryz.f41, Option.getD]
 have hmy := zhB m h
 have hpt := zhd m h
 have hw : IntKind.u8.wrap 2 = 2 := zdc (by decide) (by decide)
 have hn := zch h
 have hle : (1 + (answerI m).length ≤ 2 ^ 47) = True := eq_true (by omega)
 have t2 : (bytesE (answerI m)).take (answerI m).length = bytesE (answerI m) := List.take_of_length_le (by rw [List.length_map]; exact Nat.le_refl _)
 repeat' (first | (with_reducible first | refine zaa _ _ ?_ | refine zaf ?_ | refine zah ?_) | rw [zai] | simp only [pkS, TyB, hw, hle, t2, List.length_map, pkY, Int.reduceEq, bne_self_eq_false, Int.reduceBEq, Int.reduceBNe, implies_true, forall_const, Nat.reduceSub, Nat.reduceEqDiff, Nat.reduceAdd, Nat.reduceMul, Nat.reduceLeDiff, Nat.reduceLT, Nat.reduceBEq, reduceCtorEq] | ((first | ((try refine zal ?_); apply zao) | (apply zam; intro _)); (solve | exact (hmy) | exact (hpt) | (refine CallOK.le (hmy) ?_; simp [argsLe, aLe, csLe, cLe]) | (refine CallOK.le (hpt) ?_; simp [argsLe, aLe, csLe, cLe])); try case hn => rfl) | refine zab ?_ | refine zad (fun hb => ?_) (fun hb => ?_) | (refine And.intro ?_ ?_; focus ((try with_reducible refine zaj ?_); first | (with_reducible rfl) | ((with_reducible first | refine zak ?_ | refine zae ?_ | refine zac ?_); kernel_rfl) | (intros; omega) | (intro q p; rw [q, p]; rfl) | (intro q; rw [q]; rfl) | (intro q; simp only [Bool.and_eq_true, decide_eq_true_eq, beq_iff_eq] at q; omega) | (intros; simp [List.range, List.range.loop]; done) | (intros; simp_all [List.range, List.range.loop]; done))) | refine And.intro (fun hg => ?_) (fun hg => ?_) | (with_reducible refine zac ?_; kernel_rfl) | fail)
 rw [show (packAI m).length = 1 + (answerI m).length from by unfold packAI; rw [List.length_append]; rfl]
 rfl
theorem zlz (n : Nat) (bs : List Int) (hn : n = bs.length) : CallOK Tryz.prog 42 [.f (al n (bytesE bs)), .f (asl n (bytesE bs))] (fun x o => x = [rb true] ∧ o = []) := by
 refine zaq zaB mixed (T := Ty) (n := 10) Tryz.func42 (c := Tryz.f42.body.getD .skip) rfl Tryz.results42 Tryz.ntmps42 Tryz.call42 ?_
 simp only [Tryz.f42, Option.getD]
 have t2 : (bytesE bs).take n = bytesE bs := List.take_of_length_le (by rw [List.length_map, hn]; exact Nat.le_refl _)
 have hb := zck bs
 repeat' (first | (with_reducible first | refine zaa _ _ ?_ | refine zaf ?_ | refine zah ?_) | rw [zai] | simp only [pkS, TyB, t2, hb, pkY, Int.reduceEq, bne_self_eq_false, Int.reduceBEq, Int.reduceBNe, implies_true, forall_const, Nat.reduceSub, Nat.reduceEqDiff, Nat.reduceAdd, Nat.reduceMul, Nat.reduceLeDiff, Nat.reduceLT, Nat.reduceBEq, reduceCtorEq] | refine zab ?_ | refine zad (fun hb => ?_) (fun hb => ?_) | (refine And.intro ?_ ?_; focus ((try with_reducible refine zaj ?_); first | (with_reducible rfl) | ((with_reducible first | refine zak ?_ | refine zae ?_ | refine zac ?_); kernel_rfl) | (intros; omega) | (intro q p; rw [q, p]; rfl) | (intro q; rw [q]; rfl) | (intro q; simp only [Bool.and_eq_true, decide_eq_true_eq, beq_iff_eq] at q; omega) | (intros; simp [List.range, List.range.loop]; done) | (intros; simp_all [List.range, List.range.loop]; done))) | refine And.intro (fun hg => ?_) (fun hg => ?_) | (with_reducible refine zac ?_; kernel_rfl) | fail)
theorem ziS (bs : List Int) (m : Memo) (h : BsOk bs) (hm : answerB m = true) (hb : bs = packAI m) :
  CallOK Tryz.prog 40 [.obj (rdr bs.length (bytesE bs) 0)] (fun r o => r = [.agg ((pkMD m).map RO.d)] ∧ o = [rdr bs.length (bytesE bs) (bs.length : Nat)]) := by
 refine zaq zaB mixed (T := Ty) (n := 110) Tryz.func40 (c := Tryz.f40.body.getD .skip) rfl Tryz.results40 Tryz.ntmps40 Tryz.call40 ?_
 simp only [Tryz.f40, Option.getD]
 have h0 : bs.drop 0 = [2] ++ (answerI m ++ []) := by rw [hb, List.append_nil]; rfl
 have e0 : dByte bs 0 = (2, 1, 0) := zdN h0
 have h1 := zlC bs 0 h ⟨by decide, by decide⟩ (by rw [e0])
 rw [e0] at h1
 have e1 : dAnswer bs 1 = (m, ((bs.length : Nat) : Int), 0) := by
  have := ziX (zbr h0) hm
  rw [show 0 + [(2 : Int)].length + (answerI m).length = bs.length from by rw [hb]; simp [packAI]; omega] at this
  exact this
 have h2 := zhg bs 1 h ⟨by decide, by decide⟩
 rw [e1] at h2
 repeat' (first | (with_reducible first | refine zaa _ _ ?_ | refine zaf ?_ | refine zah ?_) | rw [zai] | simp only [pkS, TyB, pkY, Int.reduceEq, bne_self_eq_false, Int.reduceBEq, Int.reduceBNe, implies_true, forall_const, Nat.reduceSub, Nat.reduceEqDiff, Nat.reduceAdd, Nat.reduceMul, Nat.reduceLeDiff, Nat.reduceLT, Nat.reduceBEq, reduceCtorEq] | refine zab ?_ | refine zad (fun hb => ?_) (fun hb => ?_) | (refine And.intro ?_ ?_; focus ((try with_reducible refine zaj ?_); first | (with_reducible rfl) | ((with_reducible first | refine zak ?_ | refine zae ?_ | refine zac ?_); kernel_rfl) | (intros; omega) | (intro q p; rw [q, p]; rfl) | (intro q; rw [q]; rfl) | (intro q; simp only [Bool.and_eq_true, decide_eq_true_eq, beq_iff_eq] at q; omega) | (intros; simp [List.range, List.range.loop]; done) | (intros; simp_all [List.range, List.range.loop]; done))) | refine And.intro (fun hg => ?_) (fun hg => ?_) | (with_reducible refine zac ?_; kernel_rfl) | fail)
 refine zbw (mv := ?mv1) (lent := ?le1) 0 ?ha1 (h1) ?hb1 ?hc1
 case ha1 => (try simp only [pkS, TyB, zaH, implies_true, forall_const, Nat.reduceSub, Nat.reduceEqDiff, Nat.reduceAdd, Nat.reduceMul, Nat.reduceLeDiff, Nat.reduceLT, Nat.reduceBEq, reduceCtorEq]); exact rfl
 case hb1 => (try simp only [pkS, TyB, scM, implies_true, forall_const, Nat.reduceSub, Nat.reduceEqDiff, Nat.reduceAdd, Nat.reduceMul, Nat.reduceLeDiff, Nat.reduceLT, Nat.reduceBEq, reduceCtorEq]); repeat' (first | rfl | trivial | omega | with_reducible refine And.intro ?_ ?_)
 show aops _ _ _ _ _ _ _ _
 repeat' (first | (with_reducible first | refine zaa _ _ ?_ | refine zaf ?_ | refine zah ?_) | rw [zai] | simp only [pkS, TyB, pkY, Int.reduceEq, bne_self_eq_false, Int.reduceBEq, Int.reduceBNe, implies_true, forall_const, Nat.reduceSub, Nat.reduceEqDiff, Nat.reduceAdd, Nat.reduceMul, Nat.reduceLeDiff, Nat.reduceLT, Nat.reduceBEq, reduceCtorEq] | ((first | ((try refine zal ?_); apply zao) | (apply zam; intro _)); (solve | exact (h2) | exact (zlB) | (refine CallOK.le (h2) ?_; simp [argsLe, aLe, csLe, cLe]) | (refine CallOK.le (zlB) ?_; simp [argsLe, aLe, csLe, cLe])); try case hn => rfl) | refine zab ?_ | refine zad (fun hb => ?_) (fun hb => ?_) | (refine And.intro ?_ ?_; focus ((try with_reducible refine zaj ?_); first | (with_reducible rfl) | ((with_reducible first | refine zak ?_ | refine zae ?_ | refine zac ?_); kernel_rfl) | (intros; omega) | (intro q p; rw [q, p]; rfl) | (intro q; rw [q]; rfl) | (intro q; simp only [Bool.and_eq_true, decide_eq_true_eq, beq_iff_eq] at q; omega) | (intros; simp [List.range, List.range.loop]; done) | (intros; simp_all [List.range, List.range.loop]; done))) | refine And.intro (fun hg => ?_) (fun hg => ?_) | (with_reducible refine zac ?_; kernel_rfl) | fail)
theorem zkr : IdleC Tryz.prog 39 2 := by
 refine zca zaB mixed (T := Ty) Tryz.func39 rfl rfl Tryz.ntmps39 rfl rfl rfl rfl rfl rfl rfl (by decide) (y7 := .tuple #[.agg #[.int .i64 0], .bool false]) (V7 := .tup [.agg [di 0], ab false]) ?_ ?_ (by decide) rfl ?_
 ·intro w
  simp [Instr.typeAssert, Tryz.underlying106, zgq (zcY) w]
 ·intro cx w r β
  simp [ReA, ReAs, ReC, ReCs, Rd, flat]
 ·simp only [List.replicate]
  simp only [pkS, TyB,  implies_true, forall_const, Nat.reduceSub, Nat.reduceEqDiff, Nat.reduceAdd, Nat.reduceMul, Nat.reduceLeDiff, Nat.reduceLT, Nat.reduceBEq, reduceCtorEq]
  repeat' (first | (with_reducible first | refine zaa _ _ ?_ | refine zaf ?_ | refine zah ?_) | rw [zai] | simp only [pkS, TyB, pkY, Int.reduceEq, bne_self_eq_false, Int.reduceBEq, Int.reduceBNe, implies_true, forall_const, Nat.reduceSub, Nat.reduceEqDiff, Nat.reduceAdd, Nat.reduceMul, Nat.reduceLeDiff, Nat.reduceLT, Nat.reduceBEq, reduceCtorEq] | refine zab ?_ | refine zad (fun hb => ?_) (fun hb => ?_) | (refine And.intro ?_ ?_; focus ((try with_reducible refine zaj ?_); first | (with_reducible rfl) | ((with_reducible first | refine zak ?_ | refine zae ?_ | refine zac ?_); kernel_rfl) | (intros; omega) | (intro q p; rw [q, p]; rfl) | (intro q; rw [q]; rfl) | (intro q; simp only [Bool.and_eq_true, decide_eq_true_eq, beq_iff_eq] at q; omega) | (intros; simp [List.range, List.range.loop]; done) | (intros; simp_all [List.range, List.range.loop]; done))) | refine And.intro (fun hg => ?_) (fun hg => ?_) | (with_reducible refine zac ?_; kernel_rfl) | fail)
end Go.Proofs.YtiegkabcgokhkaaGreat
