/- LeadQuorum. -/
import Derived.Test.YtgiempmfpmlgnaaLF
namespace Go.Proofs.Ytgiempmfpmlgnaa
open Go.Pk
set_option maxRecDepth 100000
set_option linter.unusedSimpArgs false
set_option linter.unusedVariables false
theorem drop_mor {α : Type} {l : List α} {n : Nat} {r : List α} (k : Nat) (h : l.drop n = r) : l.drop (n + k) = r.drop k := by rw [← h, List.drop_drop]
def kQ (n : Int) : Int := if m8 n 4 = 0 then 1 else if m8 n 4 = 1 then 3 else if m8 n 4 = 2 then 5 else 7
theorem kQ_of (n : Int) : ∃ q : Int, 0 ≤ q ∧ q ≤ 3 ∧ kQ n = 2 * q + 1 := by
  unfold kQ
  split
  · exact ⟨0, by omega⟩
  split
  · exact ⟨1, by omega⟩
  split
  · exact ⟨2, by omega⟩
  · exact ⟨3, by omega⟩
/-- A leader of k that hears one promise from several. -/
structure QInv (k v : Int) (L : LeadS) (ins : List Bool) : Prop where
  n : L.n = k
  vw : L.view = v
  ph : L.phase = if decide (2 * (L.heard.length : Int) > k) = true then 2 else 1
  ok : HeardOK L.heard
  sl : L.phase = 1 → L.slots = []
  nx : L.phase = 1 → L.next = 0
  nx0 : 0 ≤ L.next
  sln : L.slots.length ≤ 9
  il : ins.length = 7
  iq : ∀ c : Nat, (c : Int) < k → ins[c]? = some (L.heard.any fun q => q.src == (c : Int))
theorem any_ins {p : Prom} {l : List Prom} {c : Int} : ((insP p l).any fun q => q.src == c) = ((p.src == c) || l.any fun q => q.src == c) := by
  unfold insP
  rw [List.any_append, List.any_cons]
  conv => rhs; rw [← List.take_append_drop (posP p.src l) l, List.any_append]
  cases (p.src == c) <;> simp
theorem insP_ok {p : Prom} {l : List Prom} (hm : Prom.may p = true) (hp : p.ok) (hn : (l.any fun q => q.src == p.src) = false) (hl : l.length ≤ 6) (h : HeardOK l) : HeardOK (insP p l) := by
  refine ⟨by rw [insP_len]; omega, fun q hq => ?_, ?_⟩
  · rcases insP_mem hq with rfl | hq
    · exact ⟨hm, hp⟩
    · exact h.may q hq
  · unfold insP
    have h1 := h.srt
    rw [← List.take_append_drop (posP p.src l) l, List.pairwise_append] at h1
    rw [List.pairwise_append, List.pairwise_cons]
    refine ⟨h1.1, ⟨fun q hq => ?_, h1.2.1⟩, fun a ha b hb => ?_⟩
    · obtain ⟨j, hj, rfl⟩ := List.getElem_of_mem hq
      simp only [List.length_drop] at hj
      have := posP_ge (s := p.src) (l := l) (j := posP p.src l + j) (by omega) h.srt (by omega)
      rw [List.getElem_drop]
      have h2 := List.any_eq_false.1 hn l[posP p.src l + j] (List.getElem_mem _)
      simp at h2
      omega
    · rcases List.mem_cons.1 hb with rfl | hb
      · obtain ⟨j, hj, rfl⟩ := List.getElem_of_mem ha
        simp only [List.length_take] at hj
        rw [List.getElem_take]
        exact posP_lt (by omega) (by omega)
      · exact h1.2.2 a ha b hb
theorem hear_new {k v q : Int} (hk : k = 2 * q + 1) (hq : 0 ≤ q ∧ q ≤ 3) {L : LeadS} {ins : List Bool} (h : QInv k v L ins) {p : Prom} {c : Nat} (hc : (c : Int) < k) (hs : p.src = c) (hm : Prom.may p = true) (hp : p.ok)
    (h1 : decide (2 * (L.heard.length : Int) > k) = false) (h2 : (L.heard.any fun q => q.src == (c : Int)) = false) :
    ∃ L', hearP L p = (L', decide (2 * ((L.heard.length + 1 : Nat) : Int) > k), 0) ∧ L'.heard.length = L.heard.length + 1 ∧ QInv k v L' (ins.set c true) := by
  have hph : L.phase = 1 := by rw [h.ph, h1]; rfl
  have hqk : quorumP k = q + 1 := by
    rw [quorumP, if_neg (by simp; omega), hk, Int.tdiv_eq_ediv_of_nonneg (by omega)]; omega
  have hl := insP_len p L.heard
  have h1' : ¬ 2 * (L.heard.length : Int) > k := by simpa using h1
  have hok := insP_ok hm hp (by rw [hs]; exact h2) (by omega) h.ok
  have hil : (ins.set c true).length = 7 := by rw [List.length_set]; exact h.il
  have hiq : ∀ c' : Nat, (c' : Int) < k → (ins.set c true)[c']? = some ((insP p L.heard).any fun q => q.src == (c' : Int)) := by
    intro c' hc'
    rw [any_ins, hs, List.getElem?_set]
    by_cases he : c = c'
    · subst he
      rw [if_pos rfl, if_pos (by rw [h.il]; omega)]; simp
    · rw [if_neg he, h.iq c' hc']
      have : ((c : Int) == (c' : Int)) = false := by simp; omega
      rw [this, Bool.false_or]
  unfold hearP
  rw [if_neg (by rw [hph]; simp), if_neg (by rw [hm, h.n]; simp; omega), if_neg (by rw [hs, h2]; simp), h.n, hqk]
  by_cases hlt : ((insP p L.heard).length : Int) < q + 1
  · rw [if_pos (by simpa using hlt)]
    have hd : decide (2 * ((L.heard.length + 1 : Nat) : Int) > k) = false := by simp; omega
    refine ⟨{ L with heard := insP p L.heard }, by rw [hd, h.n], hl, h.n, h.vw, ?_, hok, h.sl, h.nx, h.nx0, h.sln, hil, hiq⟩
    simp only
    rw [hl, hd, hph]; rfl
  · rw [if_neg (by simpa using hlt)]
    have hd : decide (2 * ((L.heard.length + 1 : Nat) : Int) > k) = true := by simp; omega
    obtain ⟨⟨g1, g2⟩, g3, g4⟩ := makeP_done (insP p L.heard)
    refine ⟨⟨L.n, 2, L.view, insP p L.heard, voteOf L.view ((makeP (insP p L.heard)).1.done + 1) 0 (makeP (insP p L.heard)).1.batches,
      (makeP (insP p L.heard)).1.done + 1 + (makeP (insP p L.heard)).1.batches.length, (makeP (insP p L.heard)).1.after, (makeP (insP p L.heard)).1.later⟩, by rw [hd, h.n], hl, h.n, h.vw, ?_, hok, fun hx => (by simp at hx), fun hx => (by simp at hx), by simp only; omega, ?_, hil, hiq⟩
    · simp only
      rw [hl, hd]; rfl
    · simp only
      have : ∀ {bs : List Batch} {v f : Int} {i : Nat}, (voteOf v f i bs).length = bs.length := by
        intro bs
        induction bs with
        | nil => intros; rfl
        | cons b bs ih => intros; simp [voteOf, ih]
      rw [this]; exact g3
theorem canCs_db {Z : List Nat} : ∀ {l : List Bool}, canCs Z (l.map db) = l.map db
  | [] => rfl
  | b :: l => by rw [List.map_cons, canCs, canCs_db, canC]
theorem curCs_db {Z : List Nat} {r : Rs} : ∀ {l : List Bool}, curCs Z r (l.map db) = true
  | [] => rfl
  | b :: l => by rw [List.map_cons, curCs, curCs_db, curC]; rfl
theorem canCs_set {Z : List Nat} {l : List Bool} {c : Nat} {b : Bool} : canCs Z ((l.map db).set c (db b)) = (l.map db).set c (db b) := by
  rw [show (l.map db).set c (db b) = (l.set c b).map db by rw [List.map_set]]; exact canCs_db
theorem curCs_set {Z : List Nat} {r : Rs} {l : List Bool} {c : Nat} {b : Bool} : curCs Z r ((l.map db).set c (db b)) = true := by
  rw [show (l.map db).set c (db b) = (l.set c b).map db by rw [List.map_set]]; exact curCs_db
theorem set7 {c : Nat} (hc : c < 7) : ([none, none, none, none, none, none, none] : List (Option Res)).set c none = [none, none, none, none, none, none, none] := by
  rcases (show c = 0 ∨ c = 1 ∨ c = 2 ∨ c = 3 ∨ c = 4 ∨ c = 5 ∨ c = 6 by omega) with rfl | rfl | rfl | rfl | rfl | rfl | rfl <;> rfl
set_option maxHeartbeats 8000000 in
theorem leadQuorum_of (n : Int) (order : List Int) (v : Int) (t : NTold) (hn : u8 n) (ho : order.length < 2 ^ 60) (ho8 : ∀ x ∈ order, u8 x) (hv : u8 v) (ht : t.ok) :
    CallOK Try.prog 4 [.f (ru n), .f (al order.length (bytesE order)), .f (ru v), .f (.agg (t.enc.map C.d))] (fun r o => r = [rb true] ∧ o = []) := by
  refine callOK_of TOKTy mixed (T := Ty) (n := 167) Try.func4 (c := Try.f4.body.getD .skip) rfl Try.results4 Try.ntmps4 Try.call4 ?_
  simp only [Try.f4, Option.getD]
  have hn4 : n.tmod 4 = m8 n 4 := tmod_nat hn (m := 4) (by decide)
  have hm4 := m8_lt (x := n) (m := 4) (by decide)
  have hld : List.drop (m8 n 4).toNat [C.d (.v (.int .i64 1)), C.d (.v (.int .i64 3)), C.d (.v (.int .i64 5)), C.d (.v (.int .i64 7))] = C.d (.v (.int .i64 (kQ n))) :: List.drop ((m8 n 4).toNat + 1) [C.d (.v (.int .i64 1)), C.d (.v (.int .i64 3)), C.d (.v (.int .i64 5)), C.d (.v (.int .i64 7))] := by
    have h3 : m8 n 4 = 0 ∨ m8 n 4 = 1 ∨ m8 n 4 = 2 ∨ m8 n 4 = 3 := by omega
    unfold kQ
    rcases h3 with h | h | h | h <;> rw [h] <;> rfl
  obtain ⟨q, hq0, hq3, hkq⟩ := kQ_of n
  obtain ⟨k, hk⟩ : ∃ k, k = kQ n := ⟨_, rfl⟩
  rw [← hk] at hld hkq
  have hqk : quorumP k = q + 1 := by
    rw [quorumP, if_neg (by simp; omega), hkq, Int.tdiv_eq_ediv_of_nonneg (by omega)]; omega
  have hwv := u8w hv
  have h0 := hear_ok (newL k) ⟨0, 0, ⟨0, 0⟩, 0, []⟩ (by refine ⟨?_, ?_, ?_, ?_, ?_, ?_, ?_⟩ <;> simp [i64]) heard0 (fun _ => rfl) (by simp only [newL]; omega)
  rw [show hearP (newL k) ⟨0, 0, ⟨0, 0⟩, 0, []⟩ = (newL k, false, 11) from rfl] at h0
  have h1 := begin_ok (newL k) v
  have hb1 : beginP (newL k) v = (⟨k, 1, v, [], [], 0, ⟨0, 0⟩, 0⟩, 0) := by
    rw [beginP, if_neg]; rfl
    have := hv.1; have := hv.2
    have hH : High = 2305843009213693952 := rfl
    simp [hH]; omega
  rw [hb1] at h1
  repeat' (first | with_reducible refine SeqQ_normal _ _ ?_ | rw [awp_seq] | simp only [pkS, TyB, Nat.reduceSub, hn4, hld, hwv, pkY, Int.reduceEq, bne_self_eq_false, Int.reduceBEq, Int.reduceBNe, if_true, if_false, implies_true, Nat.reduceEqDiff, Nat.reduceAdd, Nat.reduceMul, Nat.reduceLeDiff, Nat.reduceLT, Nat.reduceBEq, beq_self_eq_true, reduceCtorEq, imp_self, ne_eq, not_false_eq_true, beq_iff_eq, forall_const, true_implies] | refine CallR_of (awake_ok) ?_ | (refine CallR_of (CallOK.le (awake_ok) ?_) ?_; focus (simp [argsLe, aLe, csLe, cLe] <;> fail)) | refine CallRG_of (fun hg => awake_ok) rfl ?_ | (refine CallRG_of (fun hg => CallOK.le (awake_ok) ?_) rfl ?_; focus (simp [argsLe, aLe, csLe, cLe] <;> fail)) | (refine CallRG_tt ?_; refine CallR_of (awake_ok) ?_) | (refine CallRG_tt ?_; refine CallR_of (CallOK.le (awake_ok) ?_) ?_; focus (simp [argsLe, aLe, csLe, cLe] <;> fail)) | refine CallP_of (new_ok k (by rw [hqk]; omega)) ?_ | (refine CallP_of (CallP.le (new_ok k (by rw [hqk]; omega)) ?_) ?_; focus (simp [argsLe, aLe, csLe, cLe] <;> fail)) | with_reducible refine CondR_tt ?_ | with_reducible refine CondR_ff ?_ | refine CallRG_no ?_ | refine CondR_of (fun hb => ?_) (fun hb => ?_) | (refine And.intro ?_ ?_; focus ((try with_reducible refine GIm_of ?_); first | (with_reducible rfl) | (with_reducible refine rng_of ?_; rfl) | (with_reducible refine ordOK_of ?_; kernel_rfl) | (with_reducible refine chk_of ?_; kernel_rfl) | (intros; omega) | (intro q1 q2; rw [q1, q2]; rfl) | (intro q1; rw [q1]; rfl) | (intro q; simp only [Bool.and_eq_true, decide_eq_true_eq, beq_iff_eq] at q; omega) | (intros; simp_all; done) | (intros; simp [List.range, List.range.loop]; done) | (intros; simp_all [List.range, List.range.loop]; done))) | refine And.intro (fun hg => ?_) (fun hg => ?_) | (with_reducible refine chk_of ?_; kernel_rfl) | fail)
  refine CallMJ_of (mv := ?mv1) (lent := ?le1) (x := ?x1) (ass := ?ass1) ?ha1 (h0) ?hr1 rfl ?hs1 ?hb1 ?hc1
  case ha1 => (try simp only [pkS, TyB, Nat.reduceSub, pkY, Int.reduceEq, bne_self_eq_false, Int.reduceBEq, Int.reduceBNe, if_true, if_false, implies_true, Nat.reduceEqDiff, Nat.reduceAdd, Nat.reduceMul, Nat.reduceLeDiff, Nat.reduceLT, Nat.reduceBEq, beq_self_eq_true, reduceCtorEq, imp_self, ne_eq, not_false_eq_true, beq_iff_eq, forall_const, true_implies]); exact rfl
  case hr1 => simp [rosA, roA]
  case hs1 => simp [argsLe, aLe, csLe, cLe]
  case hb1 => (try simp only [pkS, TyB, Nat.reduceSub, scM, if_true, if_false, implies_true, Nat.reduceEqDiff, Nat.reduceAdd, Nat.reduceMul, Nat.reduceLeDiff, Nat.reduceLT, Nat.reduceBEq, beq_self_eq_true, reduceCtorEq, imp_self, ne_eq, not_false_eq_true, beq_iff_eq, forall_const, true_implies]); repeat' (first | rfl | trivial | omega | with_reducible refine And.intro ?_ ?_)
  show aops _ _ _ _ _ _ _ _
  repeat' (first | with_reducible refine SeqQ_normal _ _ ?_ | rw [awp_seq] | simp only [pkS, TyB, Nat.reduceSub, pkY, Int.reduceEq, bne_self_eq_false, Int.reduceBEq, Int.reduceBNe, if_true, if_false, implies_true, Nat.reduceEqDiff, Nat.reduceAdd, Nat.reduceMul, Nat.reduceLeDiff, Nat.reduceLT, Nat.reduceBEq, beq_self_eq_true, reduceCtorEq, imp_self, ne_eq, not_false_eq_true, beq_iff_eq, forall_const, true_implies] | with_reducible refine CondR_tt ?_ | with_reducible refine CondR_ff ?_ | refine CallRG_no ?_ | refine CondR_of (fun hb => ?_) (fun hb => ?_) | (refine And.intro ?_ ?_; focus ((try with_reducible refine GIm_of ?_); first | (with_reducible rfl) | (with_reducible refine rng_of ?_; rfl) | (with_reducible refine ordOK_of ?_; kernel_rfl) | (with_reducible refine chk_of ?_; kernel_rfl) | (intros; omega) | (intro q1 q2; rw [q1, q2]; rfl) | (intro q1; rw [q1]; rfl) | (intro q; simp only [Bool.and_eq_true, decide_eq_true_eq, beq_iff_eq] at q; omega) | (intros; simp_all; done) | (intros; simp [List.range, List.range.loop]; done) | (intros; simp_all [List.range, List.range.loop]; done))) | refine And.intro (fun hg => ?_) (fun hg => ?_) | (with_reducible refine chk_of ?_; kernel_rfl) | fail)
  refine CallRG_tt ?_
  refine CallMJ_of (mv := ?mv2) (lent := ?le2) (x := ?x2) (ass := ?ass2) ?ha2 (h1) ?hr2 rfl ?hs2 ?hb2 ?hc2
  case ha2 => (try simp only [pkS, TyB, Nat.reduceSub, pkY, Int.reduceEq, bne_self_eq_false, Int.reduceBEq, Int.reduceBNe, hwv, if_true, if_false, implies_true, Nat.reduceEqDiff, Nat.reduceAdd, Nat.reduceMul, Nat.reduceLeDiff, Nat.reduceLT, Nat.reduceBEq, beq_self_eq_true, reduceCtorEq, imp_self, ne_eq, not_false_eq_true, beq_iff_eq, forall_const, true_implies]); exact rfl
  case hr2 => simp [rosA, roA, hwv]
  case hs2 => simp [argsLe, aLe, csLe, cLe, hwv]
  case hb2 => (try simp only [pkS, TyB, Nat.reduceSub, scM, hwv, if_true, if_false, implies_true, Nat.reduceEqDiff, Nat.reduceAdd, Nat.reduceMul, Nat.reduceLeDiff, Nat.reduceLT, Nat.reduceBEq, beq_self_eq_true, reduceCtorEq, imp_self, ne_eq, not_false_eq_true, beq_iff_eq, forall_const, true_implies]); repeat' (first | rfl | trivial | omega | with_reducible refine And.intro ?_ ?_)
  show aops _ _ _ _ _ _ _ _
  repeat' (first | with_reducible refine SeqQ_normal _ _ ?_ | rw [awp_seq] | simp only [pkS, TyB, Nat.reduceSub, hwv, pkY, Int.reduceEq, bne_self_eq_false, Int.reduceBEq, Int.reduceBNe, if_true, if_false, implies_true, Nat.reduceEqDiff, Nat.reduceAdd, Nat.reduceMul, Nat.reduceLeDiff, Nat.reduceLT, Nat.reduceBEq, beq_self_eq_true, reduceCtorEq, imp_self, ne_eq, not_false_eq_true, beq_iff_eq, forall_const, true_implies] | with_reducible refine CondR_tt ?_ | with_reducible refine CondR_ff ?_ | refine CallRG_no ?_ | refine CondR_of (fun hb => ?_) (fun hb => ?_) | (refine And.intro ?_ ?_; focus ((try with_reducible refine GIm_of ?_); first | (with_reducible rfl) | (with_reducible refine rng_of ?_; rfl) | (with_reducible refine ordOK_of ?_; kernel_rfl) | (with_reducible refine chk_of ?_; kernel_rfl) | (intros; omega) | (intro q1 q2; rw [q1, q2]; rfl) | (intro q1; rw [q1]; rfl) | (intro q; simp only [Bool.and_eq_true, decide_eq_true_eq, beq_iff_eq] at q; omega) | (intros; simp_all; done) | (intros; simp [List.range, List.range.loop]; done) | (intros; simp_all [List.range, List.range.loop]; done))) | refine And.intro (fun hg => ?_) (fun hg => ?_) | (with_reducible refine chk_of ?_; kernel_rfl) | fail)
  refine LoopR_ix Ty Try.prog (τ := Nat × LeadS × List Bool) (fun x => ⟨[dd, al order.length (bytesE order), ru v, dd, dd, dd, dd, .one (.ptr ⟨7, 0, 1⟩ 0), dd, ai k, .one (.ptr ⟨27, 0, 1⟩ 0), dd, dd, .one (.ptr ⟨13, 0, 1⟩ 0), ai x.2.1.heard.length, ai x.1, dd, dd, dd, dd, dd, dd, dd, dd, dd, dd, dd, dd, dd, dd, dd, dd, dd, dd, dd, dd, dd, dd, dd, dd, dd, dd, dd, dd, dd, dd, dd, dd, dd, dd, dd, dd, dd, dd, dd, dd, dd, dd, dd, dd, dd, dd, dd, dd, dd, dd, dd, dd, dd, dd, dd, dd, dd, dd, dd, dd, dd, dd, dd, dd, dd, dd, dd, dd, dd, dd, dd, dd, dd, dd, dd, dd, dd, dd, dd, dd, dd, dd, dd, dd, dd, dd, dd, dd, dd, dd, dd, dd, dd, dd, dd, dd, dd, dd, dd, dd, dd, dd, dd, dd, dd, dd, dd, dd, dd, dd, dd, dd, dd, dd, dd, dd, dd, dd, dd, dd, dd, dd, dd, dd, dd, dd, dd, dd, dd, dd, dd, dd, dd, dd, dd, dd, dd, dd, dd, dd, dd, dd, dd, dd, dd, dd, dd, dd, dd, dd, dd],
      [(7, { next := 2, l := [some { e := 1, var := true, fz := false, sz := 0, cells := [C.d (uD t.done), C.d (uD t.view), C.d (uD t.slot), C.d (uD t.time), C.d (.sl t.votes.length (nvotesE t.votes))] }, none, none, none, none, none] }), (21, ⟨2, []⟩), (27, { next := 2, l := [some { e := 1, var := true, fz := false, sz := 0, cells := [di x.2.1.n, di x.2.1.phase, di x.2.1.view, .own ⟨27, 4, 1⟩ 0 x.2.1.heard.length, .own ⟨27, 5, 1⟩ 0 x.2.1.slots.length, di x.2.1.next, di x.2.1.tip.view, di x.2.1.tip.slot, di x.2.1.time] }, none, none, none, some { e := 1, var := false, fz := false, sz := 6, cells := (promisesE x.2.1.heard).map C.d }, some { e := 1, var := false, fz := false, sz := 8, cells := (votesE x.2.1.slots).map C.d }, none, none, none, none] }),
       (13, { next := 2, l := [some { e := 1, var := true, fz := false, sz := 0, cells := x.2.2.map db }, none, none, none, none, none, none, none] }), (81, ⟨2, []⟩), (128, ⟨2, []⟩)]⟩)
    (fun x => x.1 ≤ order.length ∧ QInv k v x.2.1 x.2.2) (fun x => order.length - x.1) (0, ⟨k, 1, v, [], [], 0, ⟨0, 0⟩, 0⟩, [false, false, false, false, false, false, false])
    (Gh.canon [7, 27, 13] [81, 128] [] (by simp only [fgc_dead, fgc_dv, fgc_lent, fgc_nil, fgc_ptr, fgc_own, List.set_cons_zero, List.set_cons_succ, and_true, true_and, Int.natCast_zero, Int.cast_ofNat_Int, D.v.injEq, Value.int.injEq]; try (repeat' (first | rfl | omega | with_reducible apply And.intro))) rfl rfl) ⟨Nat.zero_le _, rfl, rfl, ?_, heard0, fun _ => rfl, fun _ => rfl, Int.le_refl _, Nat.zero_le _, rfl, ?_⟩ ?_
  · simp; omega
  · intro c hc
    rcases (show c = 0 ∨ c = 1 ∨ c = 2 ∨ c = 3 ∨ c = 4 ∨ c = 5 ∨ c = 6 by omega) with rfl | rfl | rfl | rfl | rfl | rfl | rfl <;> rfl
  intro ⟨i, L, ins⟩ ⟨hi0, hL⟩ K hK
  simp only at hi0 hL hK ⊢
  repeat (first | with_reducible refine SeqQ_normal _ _ ?_ | with_reducible refine And.imp_right (SeqQ_normal _ _) ?_ | with_reducible refine And.imp_right (And.imp_right (SeqQ_normal _ _)) ?_ | with_reducible refine And.imp_right (And.imp_right (And.imp_right (SeqQ_normal _ _))) ?_ | rw [awp_seq] | simp only [pkS, TyB, Nat.reduceSub,  if_true, if_false, implies_true, Nat.reduceEqDiff, Nat.reduceAdd, Nat.reduceMul, Nat.reduceLeDiff, Nat.reduceLT, Nat.reduceBEq, beq_self_eq_true, reduceCtorEq, imp_self, ne_eq, not_false_eq_true, beq_iff_eq, forall_const, true_implies])
  refine CondR_of (fun hlt => ?_) (fun hge => ?_)
  · have hi : i < order.length := by simpa using hlt
    have hat := bytes_at hi
    have hx8 := ho8 _ (List.getElem_mem hi)
    have hw := i64_succ hi (by omega)
    have hwx := u8w hx8
    obtain ⟨c, hc⟩ : ∃ c : Nat, c = order[i].toNat % k.toNat := ⟨_, rfl⟩
    have hck : (c : Int) < k := by have := Nat.mod_lt order[i].toNat (show 0 < k.toNat by omega); omega
    have htm : order[i].tmod k = (c : Int) := by
      have := tmod_nat hx8 (m := k.toNat) (by omega)
      rw [show ((k.toNat : Nat) : Int) = k by omega] at this
      rw [this, hc]
    have hp4 := promise_ok4 (c : Int) t (by omega) ht
    have hpm := promB_may (i := (c : Int)) (by omega) ht
    have hpo := promB_ok (i := (c : Int)) (by omega) ht
    obtain ⟨p, hp⟩ : ∃ p, p = promB (c : Int) t := ⟨_, rfl⟩
    have hps : p.src = c := by rw [hp]; rfl
    rw [← hp] at hp4 hpm hpo
    have hhr := hear_ok L p hpo hL.ok hL.sl (by rw [hL.n]; omega)
    have hl7 := hL.ok.len
    have hw2 : IntKind.i64.wrap (2 * (L.heard.length : Int)) = 2 * (L.heard.length : Int) := wrap64 (by omega) (by omega)
    have hk0 : (k == 0) = false := by simp; omega
    have hif : ∀ (a b : Option Value), (if k = 0 then a else b) = b := fun a b => if_neg (by omega)
    have hwv := u8w hv
    have hvv : (v != v) = false := by simp
    have hin := hL.iq c hck
    have hat7 : (ins.map db).drop c = db (L.heard.any fun q => q.src == (c : Int)) :: (ins.map db).drop (c + 1) := by
      have hci : c < (ins.map db).length := by rw [List.length_map, hL.il]; omega
      rw [List.drop_eq_getElem_cons hci]
      congr 1
      rw [List.getElem?_eq_getElem (by rw [hL.il]; omega)] at hin
      rw [List.getElem_map]
      rw [Option.some.inj hin]
    have hill : (ins.map db).length = 7 := by rw [List.length_map, hL.il]
    have hs7 := set7 (show c < 7 by omega)
    cases h1 : decide (2 * (L.heard.length : Int) > k)
    · cases h2 : (L.heard.any fun q => q.src == (c : Int))
      · obtain ⟨L', e1, e2, e3⟩ := hear_new hkq ⟨hq0, hq3⟩ hL hck hps hpm hpo h1 h2
        rw [← e2] at e1
        rw [e1] at hhr
        rw [h2] at hat7
        have hph := phase_ok L'
        rw [e3.ph] at hph
        have hvw := view_ok L'
        rw [e3.vw] at hvw
        have hhd := heard_ok L' (by have := e3.ok.len; omega)
        have hwl : IntKind.i64.wrap ((L.heard.length : Int) + 1) = (L'.heard.length : Int) := by rw [wrap64 (by omega) (by omega), e2]; rfl
        have hw3 : IntKind.i64.wrap (2 * (L'.heard.length : Int)) = 2 * (L'.heard.length : Int) := wrap64 (by omega) (by omega)
        obtain ⟨g, hg⟩ : ∃ g, g = decide (2 * (L'.heard.length : Int) > k) := ⟨_, rfl⟩
        have hgg : ((((if g = true then 2 else 1 : Int)) == 2) != g) = false := by cases g <;> rfl
        have hg0 : (g != g) = false := by simp
        rw [← hg] at hhr hph
        repeat' (first | with_reducible refine SeqQ_normal _ _ ?_ | rw [awp_seq] | simp only [pkS, TyB, Nat.reduceSub, hat, hwx, htm, hif, pkY, Int.reduceEq, bne_self_eq_false, Int.reduceBEq, Int.reduceBNe, if_true, if_false, implies_true, Nat.reduceEqDiff, Nat.reduceAdd, Nat.reduceMul, Nat.reduceLeDiff, Nat.reduceLT, Nat.reduceBEq, beq_self_eq_true, reduceCtorEq, imp_self, ne_eq, not_false_eq_true, beq_iff_eq, forall_const, true_implies] | refine CallR_of (hp4) ?_ | (refine CallR_of (CallOK.le (hp4) ?_) ?_; focus (simp [argsLe, aLe, csLe, cLe] <;> fail)) | refine CallRG_of (fun hg => hp4) rfl ?_ | (refine CallRG_of (fun hg => CallOK.le (hp4) ?_) rfl ?_; focus (simp [argsLe, aLe, csLe, cLe] <;> fail)) | (refine CallRG_tt ?_; refine CallR_of (hp4) ?_) | (refine CallRG_tt ?_; refine CallR_of (CallOK.le (hp4) ?_) ?_; focus (simp [argsLe, aLe, csLe, cLe] <;> fail)) | with_reducible refine CondR_tt ?_ | with_reducible refine CondR_ff ?_ | refine CallRG_no ?_ | refine CondR_of (fun hb => ?_) (fun hb => ?_) | (refine And.intro ?_ ?_; focus ((try with_reducible refine GIm_of ?_); first | (with_reducible rfl) | (with_reducible refine rng_of ?_; rfl) | (with_reducible refine ordOK_of ?_; kernel_rfl) | (with_reducible refine chk_of ?_; kernel_rfl) | (intros; omega) | (intro q1 q2; rw [q1, q2]; rfl) | (intro q1; rw [q1]; rfl) | (intro q; simp only [Bool.and_eq_true, decide_eq_true_eq, beq_iff_eq] at q; omega) | (intros; simp_all; done) | (intros; simp [List.range, List.range.loop]; done) | (intros; simp_all [List.range, List.range.loop]; done))) | refine And.intro (fun hg => ?_) (fun hg => ?_) | (with_reducible refine chk_of ?_; kernel_rfl) | fail)
        refine CallMJ_of (mv := ?mv3) (lent := ?le3) (x := ?x3) (ass := ?ass3) ?ha3 (hhr) ?hr3 rfl ?hs3 ?hb3 ?hc3
        case ha3 => (try simp only [pkS, TyB, Nat.reduceSub, pkY, Int.reduceEq, bne_self_eq_false, Int.reduceBEq, Int.reduceBNe, if_true, if_false, implies_true, Nat.reduceEqDiff, Nat.reduceAdd, Nat.reduceMul, Nat.reduceLeDiff, Nat.reduceLT, Nat.reduceBEq, beq_self_eq_true, reduceCtorEq, imp_self, ne_eq, not_false_eq_true, beq_iff_eq, forall_const, true_implies]); exact rfl
        case hr3 => simp [rosA, roA]
        case hs3 => simp [argsLe, aLe, csLe, cLe]
        case hb3 => (try simp only [pkS, TyB, Nat.reduceSub, scM, if_true, if_false, implies_true, Nat.reduceEqDiff, Nat.reduceAdd, Nat.reduceMul, Nat.reduceLeDiff, Nat.reduceLT, Nat.reduceBEq, beq_self_eq_true, reduceCtorEq, imp_self, ne_eq, not_false_eq_true, beq_iff_eq, forall_const, true_implies]); repeat' (first | rfl | trivial | omega | with_reducible refine And.intro ?_ ?_)
        show aops _ _ _ _ _ _ _ _
        repeat' (first | with_reducible refine SeqQ_normal _ _ ?_ | rw [awp_seq] | simp only [pkS, TyB, Nat.reduceSub, hw2, hw3, hwl, h1, hat7, hill, hs7, ← hg, hgg, hg0, hwv, hvv, pkY, Int.reduceEq, bne_self_eq_false, Int.reduceBEq, Int.reduceBNe, if_true, if_false, implies_true, Nat.reduceEqDiff, Nat.reduceAdd, Nat.reduceMul, Nat.reduceLeDiff, Nat.reduceLT, Nat.reduceBEq, beq_self_eq_true, reduceCtorEq, imp_self, ne_eq, not_false_eq_true, beq_iff_eq, forall_const, true_implies] | refine CallR_of (hph) ?_ | refine CallR_of (hvw) ?_ | refine CallR_of (hhd) ?_ | (refine CallR_of (CallOK.le (hph) ?_) ?_; focus (simp [argsLe, aLe, csLe, cLe] <;> fail)) | (refine CallR_of (CallOK.le (hvw) ?_) ?_; focus (simp [argsLe, aLe, csLe, cLe] <;> fail)) | (refine CallR_of (CallOK.le (hhd) ?_) ?_; focus (simp [argsLe, aLe, csLe, cLe] <;> fail)) | refine CallRG_of (fun hg => hph) rfl ?_ | refine CallRG_of (fun hg => hvw) rfl ?_ | refine CallRG_of (fun hg => hhd) rfl ?_ | (refine CallRG_of (fun hg => CallOK.le (hph) ?_) rfl ?_; focus (simp [argsLe, aLe, csLe, cLe] <;> fail)) | (refine CallRG_of (fun hg => CallOK.le (hvw) ?_) rfl ?_; focus (simp [argsLe, aLe, csLe, cLe] <;> fail)) | (refine CallRG_of (fun hg => CallOK.le (hhd) ?_) rfl ?_; focus (simp [argsLe, aLe, csLe, cLe] <;> fail)) | (refine CallRG_tt ?_; refine CallR_of (hph) ?_) | (refine CallRG_tt ?_; refine CallR_of (hvw) ?_) | (refine CallRG_tt ?_; refine CallR_of (hhd) ?_) | (refine CallRG_tt ?_; refine CallR_of (CallOK.le (hph) ?_) ?_; focus (simp [argsLe, aLe, csLe, cLe] <;> fail)) | (refine CallRG_tt ?_; refine CallR_of (CallOK.le (hvw) ?_) ?_; focus (simp [argsLe, aLe, csLe, cLe] <;> fail)) | (refine CallRG_tt ?_; refine CallR_of (CallOK.le (hhd) ?_) ?_; focus (simp [argsLe, aLe, csLe, cLe] <;> fail)) | with_reducible refine CondR_tt ?_ | with_reducible refine CondR_ff ?_ | refine CallRG_no ?_ | refine CondR_of (fun hb => ?_) (fun hb => ?_) | (refine And.intro ?_ ?_; focus ((try with_reducible refine GIm_of ?_); first | (with_reducible rfl) | (with_reducible refine rng_of ?_; rfl) | (with_reducible refine ordOK_of ?_; kernel_rfl) | (with_reducible refine chk_of ?_; kernel_rfl) | (intros; omega) | (intro q1 q2; rw [q1, q2]; rfl) | (intro q1; rw [q1]; rfl) | (intro q; simp only [Bool.and_eq_true, decide_eq_true_eq, beq_iff_eq] at q; omega) | (intros; simp_all; done) | (intros; simp [List.range, List.range.loop]; done) | (intros; simp_all [List.range, List.range.loop]; done))) | refine And.intro (fun hg => ?_) (fun hg => ?_) | (with_reducible refine chk_of ?_; kernel_rfl) | fail)
        exact hK _ (i + 1, L', ins.set c true) (Gh.canon [7, 27, 13] [] [] (by simp only [hw, fgc_dead, fgc_dv, fgc_lent, fgc_nil, fgc_ptr, fgc_own, List.set_cons_zero, List.set_cons_succ, and_true, true_and, Int.natCast_zero, Int.cast_ofNat_Int, D.v.injEq, Value.int.injEq]; try (repeat' (first | rfl | omega | with_reducible apply And.intro))) (by simp [dropAll, curR, curL, curO, curCs, curC, curH, curCs_db, curCs_set, getR, lookR, findR, hs7]) (by simp [dropAll, canR, canRS, canRes, epZ, canCs, canC, canCs_db, canCs_set, hs7])) ⟨hi, e3⟩ (by simp only; omega)
      · have hne : hearP L p = (L, false, 7) := by
          rw [hearP, if_neg (by rw [hL.ph, h1]; simp), if_neg (by rw [hpm, hL.n]; simp; omega), if_pos (by rw [hps]; exact h2)]
        rw [hne] at hhr
        rw [h2] at hat7
        have hph := phase_ok L
        rw [hL.ph, h1] at hph
        have hvw := view_ok L
        rw [hL.vw] at hvw
        have hhd := heard_ok L (by omega)
        repeat' (first | with_reducible refine SeqQ_normal _ _ ?_ | rw [awp_seq] | simp only [pkS, TyB, Nat.reduceSub, hat, hwx, htm, hif, pkY, Int.reduceEq, bne_self_eq_false, Int.reduceBEq, Int.reduceBNe, if_true, if_false, implies_true, Nat.reduceEqDiff, Nat.reduceAdd, Nat.reduceMul, Nat.reduceLeDiff, Nat.reduceLT, Nat.reduceBEq, beq_self_eq_true, reduceCtorEq, imp_self, ne_eq, not_false_eq_true, beq_iff_eq, forall_const, true_implies] | refine CallR_of (hp4) ?_ | (refine CallR_of (CallOK.le (hp4) ?_) ?_; focus (simp [argsLe, aLe, csLe, cLe] <;> fail)) | refine CallRG_of (fun hg => hp4) rfl ?_ | (refine CallRG_of (fun hg => CallOK.le (hp4) ?_) rfl ?_; focus (simp [argsLe, aLe, csLe, cLe] <;> fail)) | (refine CallRG_tt ?_; refine CallR_of (hp4) ?_) | (refine CallRG_tt ?_; refine CallR_of (CallOK.le (hp4) ?_) ?_; focus (simp [argsLe, aLe, csLe, cLe] <;> fail)) | with_reducible refine CondR_tt ?_ | with_reducible refine CondR_ff ?_ | refine CallRG_no ?_ | refine CondR_of (fun hb => ?_) (fun hb => ?_) | (refine And.intro ?_ ?_; focus ((try with_reducible refine GIm_of ?_); first | (with_reducible rfl) | (with_reducible refine rng_of ?_; rfl) | (with_reducible refine ordOK_of ?_; kernel_rfl) | (with_reducible refine chk_of ?_; kernel_rfl) | (intros; omega) | (intro q1 q2; rw [q1, q2]; rfl) | (intro q1; rw [q1]; rfl) | (intro q; simp only [Bool.and_eq_true, decide_eq_true_eq, beq_iff_eq] at q; omega) | (intros; simp_all; done) | (intros; simp [List.range, List.range.loop]; done) | (intros; simp_all [List.range, List.range.loop]; done))) | refine And.intro (fun hg => ?_) (fun hg => ?_) | (with_reducible refine chk_of ?_; kernel_rfl) | fail)
        refine CallMJ_of (mv := ?mv4) (lent := ?le4) (x := ?x4) (ass := ?ass4) ?ha4 (hhr) ?hr4 rfl ?hs4 ?hb4 ?hc4
        case ha4 => (try simp only [pkS, TyB, Nat.reduceSub, pkY, Int.reduceEq, bne_self_eq_false, Int.reduceBEq, Int.reduceBNe, if_true, if_false, implies_true, Nat.reduceEqDiff, Nat.reduceAdd, Nat.reduceMul, Nat.reduceLeDiff, Nat.reduceLT, Nat.reduceBEq, beq_self_eq_true, reduceCtorEq, imp_self, ne_eq, not_false_eq_true, beq_iff_eq, forall_const, true_implies]); exact rfl
        case hr4 => simp [rosA, roA]
        case hs4 => simp [argsLe, aLe, csLe, cLe]
        case hb4 => (try simp only [pkS, TyB, Nat.reduceSub, scM, if_true, if_false, implies_true, Nat.reduceEqDiff, Nat.reduceAdd, Nat.reduceMul, Nat.reduceLeDiff, Nat.reduceLT, Nat.reduceBEq, beq_self_eq_true, reduceCtorEq, imp_self, ne_eq, not_false_eq_true, beq_iff_eq, forall_const, true_implies]); repeat' (first | rfl | trivial | omega | with_reducible refine And.intro ?_ ?_)
        show aops _ _ _ _ _ _ _ _
        repeat' (first | with_reducible refine SeqQ_normal _ _ ?_ | rw [awp_seq] | simp only [pkS, TyB, Nat.reduceSub, hw2, h1, hat7, hill, hwv, hvv, pkY, Int.reduceEq, bne_self_eq_false, Int.reduceBEq, Int.reduceBNe, if_true, if_false, implies_true, Nat.reduceEqDiff, Nat.reduceAdd, Nat.reduceMul, Nat.reduceLeDiff, Nat.reduceLT, Nat.reduceBEq, beq_self_eq_true, reduceCtorEq, imp_self, ne_eq, not_false_eq_true, beq_iff_eq, forall_const, true_implies] | refine CallR_of (hph) ?_ | refine CallR_of (hvw) ?_ | refine CallR_of (hhd) ?_ | (refine CallR_of (CallOK.le (hph) ?_) ?_; focus (simp [argsLe, aLe, csLe, cLe] <;> fail)) | (refine CallR_of (CallOK.le (hvw) ?_) ?_; focus (simp [argsLe, aLe, csLe, cLe] <;> fail)) | (refine CallR_of (CallOK.le (hhd) ?_) ?_; focus (simp [argsLe, aLe, csLe, cLe] <;> fail)) | refine CallRG_of (fun hg => hph) rfl ?_ | refine CallRG_of (fun hg => hvw) rfl ?_ | refine CallRG_of (fun hg => hhd) rfl ?_ | (refine CallRG_of (fun hg => CallOK.le (hph) ?_) rfl ?_; focus (simp [argsLe, aLe, csLe, cLe] <;> fail)) | (refine CallRG_of (fun hg => CallOK.le (hvw) ?_) rfl ?_; focus (simp [argsLe, aLe, csLe, cLe] <;> fail)) | (refine CallRG_of (fun hg => CallOK.le (hhd) ?_) rfl ?_; focus (simp [argsLe, aLe, csLe, cLe] <;> fail)) | (refine CallRG_tt ?_; refine CallR_of (hph) ?_) | (refine CallRG_tt ?_; refine CallR_of (hvw) ?_) | (refine CallRG_tt ?_; refine CallR_of (hhd) ?_) | (refine CallRG_tt ?_; refine CallR_of (CallOK.le (hph) ?_) ?_; focus (simp [argsLe, aLe, csLe, cLe] <;> fail)) | (refine CallRG_tt ?_; refine CallR_of (CallOK.le (hvw) ?_) ?_; focus (simp [argsLe, aLe, csLe, cLe] <;> fail)) | (refine CallRG_tt ?_; refine CallR_of (CallOK.le (hhd) ?_) ?_; focus (simp [argsLe, aLe, csLe, cLe] <;> fail)) | with_reducible refine CondR_tt ?_ | with_reducible refine CondR_ff ?_ | refine CallRG_no ?_ | refine CondR_of (fun hb => ?_) (fun hb => ?_) | (refine And.intro ?_ ?_; focus ((try with_reducible refine GIm_of ?_); first | (with_reducible rfl) | (with_reducible refine rng_of ?_; rfl) | (with_reducible refine ordOK_of ?_; kernel_rfl) | (with_reducible refine chk_of ?_; kernel_rfl) | (intros; omega) | (intro q1 q2; rw [q1, q2]; rfl) | (intro q1; rw [q1]; rfl) | (intro q; simp only [Bool.and_eq_true, decide_eq_true_eq, beq_iff_eq] at q; omega) | (intros; simp_all; done) | (intros; simp [List.range, List.range.loop]; done) | (intros; simp_all [List.range, List.range.loop]; done))) | refine And.intro (fun hg => ?_) (fun hg => ?_) | (with_reducible refine chk_of ?_; kernel_rfl) | fail)
        exact hK _ (i + 1, L, ins) (Gh.canon [7, 27, 13] [] [] (by simp only [hw, fgc_dead, fgc_dv, fgc_lent, fgc_nil, fgc_ptr, fgc_own, List.set_cons_zero, List.set_cons_succ, and_true, true_and, Int.natCast_zero, Int.cast_ofNat_Int, D.v.injEq, Value.int.injEq]; try (repeat' (first | rfl | omega | with_reducible apply And.intro))) (by simp [dropAll, curR, curL, curO, curCs, curC, curH, curCs_db, getR, lookR, findR]) (by simp [dropAll, canR, canRS, canRes, epZ, canCs, canC, canCs_db])) ⟨hi, hL⟩ (by simp only; omega)
    · have hne : hearP L p = (L, false, 11) := by rw [hearP, if_pos (by rw [hL.ph, h1]; simp)]
      rw [hne] at hhr
      have hph := phase_ok L
      rw [hL.ph, h1] at hph
      have hvw := view_ok L
      rw [hL.vw] at hvw
      have hhd := heard_ok L (by omega)
      repeat' (first | with_reducible refine SeqQ_normal _ _ ?_ | rw [awp_seq] | simp only [pkS, TyB, Nat.reduceSub, hat, hwx, htm, hif, pkY, Int.reduceEq, bne_self_eq_false, Int.reduceBEq, Int.reduceBNe, if_true, if_false, implies_true, Nat.reduceEqDiff, Nat.reduceAdd, Nat.reduceMul, Nat.reduceLeDiff, Nat.reduceLT, Nat.reduceBEq, beq_self_eq_true, reduceCtorEq, imp_self, ne_eq, not_false_eq_true, beq_iff_eq, forall_const, true_implies] | refine CallR_of (hp4) ?_ | (refine CallR_of (CallOK.le (hp4) ?_) ?_; focus (simp [argsLe, aLe, csLe, cLe] <;> fail)) | refine CallRG_of (fun hg => hp4) rfl ?_ | (refine CallRG_of (fun hg => CallOK.le (hp4) ?_) rfl ?_; focus (simp [argsLe, aLe, csLe, cLe] <;> fail)) | (refine CallRG_tt ?_; refine CallR_of (hp4) ?_) | (refine CallRG_tt ?_; refine CallR_of (CallOK.le (hp4) ?_) ?_; focus (simp [argsLe, aLe, csLe, cLe] <;> fail)) | with_reducible refine CondR_tt ?_ | with_reducible refine CondR_ff ?_ | refine CallRG_no ?_ | refine CondR_of (fun hb => ?_) (fun hb => ?_) | (refine And.intro ?_ ?_; focus ((try with_reducible refine GIm_of ?_); first | (with_reducible rfl) | (with_reducible refine rng_of ?_; rfl) | (with_reducible refine ordOK_of ?_; kernel_rfl) | (with_reducible refine chk_of ?_; kernel_rfl) | (intros; omega) | (intro q1 q2; rw [q1, q2]; rfl) | (intro q1; rw [q1]; rfl) | (intro q; simp only [Bool.and_eq_true, decide_eq_true_eq, beq_iff_eq] at q; omega) | (intros; simp_all; done) | (intros; simp [List.range, List.range.loop]; done) | (intros; simp_all [List.range, List.range.loop]; done))) | refine And.intro (fun hg => ?_) (fun hg => ?_) | (with_reducible refine chk_of ?_; kernel_rfl) | fail)
      refine CallMJ_of (mv := ?mv5) (lent := ?le5) (x := ?x5) (ass := ?ass5) ?ha5 (hhr) ?hr5 rfl ?hs5 ?hb5 ?hc5
      case ha5 => (try simp only [pkS, TyB, Nat.reduceSub, pkY, Int.reduceEq, bne_self_eq_false, Int.reduceBEq, Int.reduceBNe, if_true, if_false, implies_true, Nat.reduceEqDiff, Nat.reduceAdd, Nat.reduceMul, Nat.reduceLeDiff, Nat.reduceLT, Nat.reduceBEq, beq_self_eq_true, reduceCtorEq, imp_self, ne_eq, not_false_eq_true, beq_iff_eq, forall_const, true_implies]); exact rfl
      case hr5 => simp [rosA, roA]
      case hs5 => simp [argsLe, aLe, csLe, cLe]
      case hb5 => (try simp only [pkS, TyB, Nat.reduceSub, scM, if_true, if_false, implies_true, Nat.reduceEqDiff, Nat.reduceAdd, Nat.reduceMul, Nat.reduceLeDiff, Nat.reduceLT, Nat.reduceBEq, beq_self_eq_true, reduceCtorEq, imp_self, ne_eq, not_false_eq_true, beq_iff_eq, forall_const, true_implies]); repeat' (first | rfl | trivial | omega | with_reducible refine And.intro ?_ ?_)
      show aops _ _ _ _ _ _ _ _
      repeat' (first | with_reducible refine SeqQ_normal _ _ ?_ | rw [awp_seq] | simp only [pkS, TyB, Nat.reduceSub, hw2, h1, hwv, hvv, pkY, Int.reduceEq, bne_self_eq_false, Int.reduceBEq, Int.reduceBNe, if_true, if_false, implies_true, Nat.reduceEqDiff, Nat.reduceAdd, Nat.reduceMul, Nat.reduceLeDiff, Nat.reduceLT, Nat.reduceBEq, beq_self_eq_true, reduceCtorEq, imp_self, ne_eq, not_false_eq_true, beq_iff_eq, forall_const, true_implies] | refine CallR_of (hph) ?_ | refine CallR_of (hvw) ?_ | refine CallR_of (hhd) ?_ | (refine CallR_of (CallOK.le (hph) ?_) ?_; focus (simp [argsLe, aLe, csLe, cLe] <;> fail)) | (refine CallR_of (CallOK.le (hvw) ?_) ?_; focus (simp [argsLe, aLe, csLe, cLe] <;> fail)) | (refine CallR_of (CallOK.le (hhd) ?_) ?_; focus (simp [argsLe, aLe, csLe, cLe] <;> fail)) | refine CallRG_of (fun hg => hph) rfl ?_ | refine CallRG_of (fun hg => hvw) rfl ?_ | refine CallRG_of (fun hg => hhd) rfl ?_ | (refine CallRG_of (fun hg => CallOK.le (hph) ?_) rfl ?_; focus (simp [argsLe, aLe, csLe, cLe] <;> fail)) | (refine CallRG_of (fun hg => CallOK.le (hvw) ?_) rfl ?_; focus (simp [argsLe, aLe, csLe, cLe] <;> fail)) | (refine CallRG_of (fun hg => CallOK.le (hhd) ?_) rfl ?_; focus (simp [argsLe, aLe, csLe, cLe] <;> fail)) | (refine CallRG_tt ?_; refine CallR_of (hph) ?_) | (refine CallRG_tt ?_; refine CallR_of (hvw) ?_) | (refine CallRG_tt ?_; refine CallR_of (hhd) ?_) | (refine CallRG_tt ?_; refine CallR_of (CallOK.le (hph) ?_) ?_; focus (simp [argsLe, aLe, csLe, cLe] <;> fail)) | (refine CallRG_tt ?_; refine CallR_of (CallOK.le (hvw) ?_) ?_; focus (simp [argsLe, aLe, csLe, cLe] <;> fail)) | (refine CallRG_tt ?_; refine CallR_of (CallOK.le (hhd) ?_) ?_; focus (simp [argsLe, aLe, csLe, cLe] <;> fail)) | with_reducible refine CondR_tt ?_ | with_reducible refine CondR_ff ?_ | refine CallRG_no ?_ | refine CondR_of (fun hb => ?_) (fun hb => ?_) | (refine And.intro ?_ ?_; focus ((try with_reducible refine GIm_of ?_); first | (with_reducible rfl) | (with_reducible refine rng_of ?_; rfl) | (with_reducible refine ordOK_of ?_; kernel_rfl) | (with_reducible refine chk_of ?_; kernel_rfl) | (intros; omega) | (intro q1 q2; rw [q1, q2]; rfl) | (intro q1; rw [q1]; rfl) | (intro q; simp only [Bool.and_eq_true, decide_eq_true_eq, beq_iff_eq] at q; omega) | (intros; simp_all; done) | (intros; simp [List.range, List.range.loop]; done) | (intros; simp_all [List.range, List.range.loop]; done))) | refine And.intro (fun hg => ?_) (fun hg => ?_) | (with_reducible refine chk_of ?_; kernel_rfl) | fail)
      exact hK _ (i + 1, L, ins) (Gh.canon [7, 27, 13] [] [] (by simp only [hw, fgc_dead, fgc_dv, fgc_lent, fgc_nil, fgc_ptr, fgc_own, List.set_cons_zero, List.set_cons_succ, and_true, true_and, Int.natCast_zero, Int.cast_ofNat_Int, D.v.injEq, Value.int.injEq]; try (repeat' (first | rfl | omega | with_reducible apply And.intro))) (by simp [dropAll, curR, curL, curO, curCs, curC, curH, curCs_db, getR, lookR, findR]) (by simp [dropAll, canR, canRS, canRes, epZ, canCs, canC, canCs_db])) ⟨hi, hL⟩ (by simp only; omega)
  · have hw2 : IntKind.i64.wrap (2 * (L.heard.length : Int)) = 2 * (L.heard.length : Int) := wrap64 (by have := hL.ok.len; omega) (by have := hL.ok.len; omega)
    have hadd := add_ok L 0 0 [] (by have := hL.sln; omega) hL.nx0 (by simp) (fun r h => by simp at h)
    cases h1 : decide (2 * (L.heard.length : Int) > k)
    · have hph : L.phase = 1 := by rw [hL.ph, h1]; rfl
      have hne : addP L 0 0 [] = (L, 0, 11) := by rw [addP, if_pos (by rw [hph]; simp)]
      rw [hne] at hadd
      have hnx := next_ok L
      rw [hL.nx hph] at hnx
      have hsl := slots_ok L 0 (by have := hL.sln; omega) (by rw [hL.sl hph]; simp)
      rw [show slotsP L 0 = [] by rw [slotsP, if_pos (by rw [hph]; rfl)]] at hsl
      repeat' (first | with_reducible refine SeqQ_normal _ _ ?_ | rw [awp_seq] | simp only [pkS, TyB, Nat.reduceSub, pkY, Int.reduceEq, bne_self_eq_false, Int.reduceBEq, Int.reduceBNe, if_true, if_false, implies_true, Nat.reduceEqDiff, Nat.reduceAdd, Nat.reduceMul, Nat.reduceLeDiff, Nat.reduceLT, Nat.reduceBEq, beq_self_eq_true, reduceCtorEq, imp_self, ne_eq, not_false_eq_true, beq_iff_eq, forall_const, true_implies] | with_reducible refine CondR_tt ?_ | with_reducible refine CondR_ff ?_ | refine CallRG_no ?_ | refine CondR_of (fun hb => ?_) (fun hb => ?_) | (refine And.intro ?_ ?_; focus ((try with_reducible refine GIm_of ?_); first | (with_reducible rfl) | (with_reducible refine rng_of ?_; rfl) | (with_reducible refine ordOK_of ?_; kernel_rfl) | (with_reducible refine chk_of ?_; kernel_rfl) | (intros; omega) | (intro q1 q2; rw [q1, q2]; rfl) | (intro q1; rw [q1]; rfl) | (intro q; simp only [Bool.and_eq_true, decide_eq_true_eq, beq_iff_eq] at q; omega) | (intros; simp_all; done) | (intros; simp [List.range, List.range.loop]; done) | (intros; simp_all [List.range, List.range.loop]; done))) | refine And.intro (fun hg => ?_) (fun hg => ?_) | (with_reducible refine chk_of ?_; kernel_rfl) | fail)
      refine CallMJ_of (mv := ?mv6) (lent := ?le6) (x := ?x6) (ass := ?ass6) ?ha6 (hadd) ?hr6 rfl ?hs6 ?hb6 ?hc6
      case ha6 => (try simp only [pkS, TyB, Nat.reduceSub, pkY, Int.reduceEq, bne_self_eq_false, Int.reduceBEq, Int.reduceBNe, if_true, if_false, implies_true, Nat.reduceEqDiff, Nat.reduceAdd, Nat.reduceMul, Nat.reduceLeDiff, Nat.reduceLT, Nat.reduceBEq, beq_self_eq_true, reduceCtorEq, imp_self, ne_eq, not_false_eq_true, beq_iff_eq, forall_const, true_implies]); exact rfl
      case hr6 => simp [rosA, roA]
      case hs6 => simp [argsLe, aLe, csLe, cLe]
      case hb6 => (try simp only [pkS, TyB, Nat.reduceSub, scM, if_true, if_false, implies_true, Nat.reduceEqDiff, Nat.reduceAdd, Nat.reduceMul, Nat.reduceLeDiff, Nat.reduceLT, Nat.reduceBEq, beq_self_eq_true, reduceCtorEq, imp_self, ne_eq, not_false_eq_true, beq_iff_eq, forall_const, true_implies]); repeat' (first | rfl | trivial | omega | with_reducible refine And.intro ?_ ?_)
      show aops _ _ _ _ _ _ _ _
      have hz : ((((0 : Nat) : Int)) == 0) = true := rfl
      repeat' (first | with_reducible refine SeqQ_normal _ _ ?_ | rw [awp_seq] | simp only [pkS, TyB, Nat.reduceSub, hw2, h1, hz, pkY, Int.reduceEq, bne_self_eq_false, Int.reduceBEq, Int.reduceBNe, if_true, if_false, implies_true, Nat.reduceEqDiff, Nat.reduceAdd, Nat.reduceMul, Nat.reduceLeDiff, Nat.reduceLT, Nat.reduceBEq, beq_self_eq_true, reduceCtorEq, imp_self, ne_eq, not_false_eq_true, beq_iff_eq, forall_const, true_implies] | refine CallR_of (hnx) ?_ | refine CallR_of (hsl) ?_ | refine CallR_of (awake_ok) ?_ | (refine CallR_of (CallOK.le (hnx) ?_) ?_; focus (simp [argsLe, aLe, csLe, cLe] <;> fail)) | (refine CallR_of (CallOK.le (hsl) ?_) ?_; focus (simp [argsLe, aLe, csLe, cLe] <;> fail)) | (refine CallR_of (CallOK.le (awake_ok) ?_) ?_; focus (simp [argsLe, aLe, csLe, cLe] <;> fail)) | refine CallRG_of (fun hg => hnx) rfl ?_ | refine CallRG_of (fun hg => hsl) rfl ?_ | refine CallRG_of (fun hg => awake_ok) rfl ?_ | (refine CallRG_of (fun hg => CallOK.le (hnx) ?_) rfl ?_; focus (simp [argsLe, aLe, csLe, cLe] <;> fail)) | (refine CallRG_of (fun hg => CallOK.le (hsl) ?_) rfl ?_; focus (simp [argsLe, aLe, csLe, cLe] <;> fail)) | (refine CallRG_of (fun hg => CallOK.le (awake_ok) ?_) rfl ?_; focus (simp [argsLe, aLe, csLe, cLe] <;> fail)) | (refine CallRG_tt ?_; refine CallR_of (hnx) ?_) | (refine CallRG_tt ?_; refine CallR_of (hsl) ?_) | (refine CallRG_tt ?_; refine CallR_of (awake_ok) ?_) | (refine CallRG_tt ?_; refine CallR_of (CallOK.le (hnx) ?_) ?_; focus (simp [argsLe, aLe, csLe, cLe] <;> fail)) | (refine CallRG_tt ?_; refine CallR_of (CallOK.le (hsl) ?_) ?_; focus (simp [argsLe, aLe, csLe, cLe] <;> fail)) | (refine CallRG_tt ?_; refine CallR_of (CallOK.le (awake_ok) ?_) ?_; focus (simp [argsLe, aLe, csLe, cLe] <;> fail)) | with_reducible refine CondR_tt ?_ | with_reducible refine CondR_ff ?_ | refine CallRG_no ?_ | refine CondR_of (fun hb => ?_) (fun hb => ?_) | (refine And.intro ?_ ?_; focus ((try with_reducible refine GIm_of ?_); first | (with_reducible rfl) | (with_reducible refine rng_of ?_; rfl) | (with_reducible refine ordOK_of ?_; kernel_rfl) | (with_reducible refine chk_of ?_; kernel_rfl) | (intros; omega) | (intro q1 q2; rw [q1, q2]; rfl) | (intro q1; rw [q1]; rfl) | (intro q; simp only [Bool.and_eq_true, decide_eq_true_eq, beq_iff_eq] at q; omega) | (intros; simp_all; done) | (intros; simp [List.range, List.range.loop]; done) | (intros; simp_all [List.range, List.range.loop]; done))) | refine And.intro (fun hg => ?_) (fun hg => ?_) | (with_reducible refine chk_of ?_; kernel_rfl) | fail)
    · repeat' (first | with_reducible refine SeqQ_normal _ _ ?_ | rw [awp_seq] | simp only [pkS, TyB, Nat.reduceSub, pkY, Int.reduceEq, bne_self_eq_false, Int.reduceBEq, Int.reduceBNe, if_true, if_false, implies_true, Nat.reduceEqDiff, Nat.reduceAdd, Nat.reduceMul, Nat.reduceLeDiff, Nat.reduceLT, Nat.reduceBEq, beq_self_eq_true, reduceCtorEq, imp_self, ne_eq, not_false_eq_true, beq_iff_eq, forall_const, true_implies] | with_reducible refine CondR_tt ?_ | with_reducible refine CondR_ff ?_ | refine CallRG_no ?_ | refine CondR_of (fun hb => ?_) (fun hb => ?_) | (refine And.intro ?_ ?_; focus ((try with_reducible refine GIm_of ?_); first | (with_reducible rfl) | (with_reducible refine rng_of ?_; rfl) | (with_reducible refine ordOK_of ?_; kernel_rfl) | (with_reducible refine chk_of ?_; kernel_rfl) | (intros; omega) | (intro q1 q2; rw [q1, q2]; rfl) | (intro q1; rw [q1]; rfl) | (intro q; simp only [Bool.and_eq_true, decide_eq_true_eq, beq_iff_eq] at q; omega) | (intros; simp_all; done) | (intros; simp [List.range, List.range.loop]; done) | (intros; simp_all [List.range, List.range.loop]; done))) | refine And.intro (fun hg => ?_) (fun hg => ?_) | (with_reducible refine chk_of ?_; kernel_rfl) | fail)
      refine CallMJ_of (mv := ?mv7) (lent := ?le7) (x := ?x7) (ass := ?ass7) ?ha7 (hadd) ?hr7 rfl ?hs7 ?hb7 ?hc7
      case ha7 => (try simp only [pkS, TyB, Nat.reduceSub, pkY, Int.reduceEq, bne_self_eq_false, Int.reduceBEq, Int.reduceBNe, if_true, if_false, implies_true, Nat.reduceEqDiff, Nat.reduceAdd, Nat.reduceMul, Nat.reduceLeDiff, Nat.reduceLT, Nat.reduceBEq, beq_self_eq_true, reduceCtorEq, imp_self, ne_eq, not_false_eq_true, beq_iff_eq, forall_const, true_implies]); exact rfl
      case hr7 => simp [rosA, roA]
      case hs7 => simp [argsLe, aLe, csLe, cLe]
      case hb7 => (try simp only [pkS, TyB, Nat.reduceSub, scM, if_true, if_false, implies_true, Nat.reduceEqDiff, Nat.reduceAdd, Nat.reduceMul, Nat.reduceLeDiff, Nat.reduceLT, Nat.reduceBEq, beq_self_eq_true, reduceCtorEq, imp_self, ne_eq, not_false_eq_true, beq_iff_eq, forall_const, true_implies]); repeat' (first | rfl | trivial | omega | with_reducible refine And.intro ?_ ?_)
      show aops _ _ _ _ _ _ _ _
      repeat' (first | with_reducible refine SeqQ_normal _ _ ?_ | rw [awp_seq] | simp only [pkS, TyB, Nat.reduceSub, hw2, h1, pkY, Int.reduceEq, bne_self_eq_false, Int.reduceBEq, Int.reduceBNe, if_true, if_false, implies_true, Nat.reduceEqDiff, Nat.reduceAdd, Nat.reduceMul, Nat.reduceLeDiff, Nat.reduceLT, Nat.reduceBEq, beq_self_eq_true, reduceCtorEq, imp_self, ne_eq, not_false_eq_true, beq_iff_eq, forall_const, true_implies] | refine CallR_of (awake_ok) ?_ | (refine CallR_of (CallOK.le (awake_ok) ?_) ?_; focus (simp [argsLe, aLe, csLe, cLe] <;> fail)) | refine CallRG_of (fun hg => awake_ok) rfl ?_ | (refine CallRG_of (fun hg => CallOK.le (awake_ok) ?_) rfl ?_; focus (simp [argsLe, aLe, csLe, cLe] <;> fail)) | (refine CallRG_tt ?_; refine CallR_of (awake_ok) ?_) | (refine CallRG_tt ?_; refine CallR_of (CallOK.le (awake_ok) ?_) ?_; focus (simp [argsLe, aLe, csLe, cLe] <;> fail)) | with_reducible refine CondR_tt ?_ | with_reducible refine CondR_ff ?_ | refine CallRG_no ?_ | refine CondR_of (fun hb => ?_) (fun hb => ?_) | (refine And.intro ?_ ?_; focus ((try with_reducible refine GIm_of ?_); first | (with_reducible rfl) | (with_reducible refine rng_of ?_; rfl) | (with_reducible refine ordOK_of ?_; kernel_rfl) | (with_reducible refine chk_of ?_; kernel_rfl) | (intros; omega) | (intro q1 q2; rw [q1, q2]; rfl) | (intro q1; rw [q1]; rfl) | (intro q; simp only [Bool.and_eq_true, decide_eq_true_eq, beq_iff_eq] at q; omega) | (intros; simp_all; done) | (intros; simp [List.range, List.range.loop]; done) | (intros; simp_all [List.range, List.range.loop]; done))) | refine And.intro (fun hg => ?_) (fun hg => ?_) | (with_reducible refine chk_of ?_; kernel_rfl) | fail)
end Go.Proofs.Ytgiempmfpmlgnaa

