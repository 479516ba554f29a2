import Derived.Test.YtiegkabcgokhkaaGreatSE
namespace Go.Proofs.YtiegkabcgokhkaaGreat
open Go.Pk
set_option maxRecDepth 100000
set_option linter.unusedSimpArgs false
set_option linter.unusedVariables false
def nmL (j : Nat) : ByteArray := ([⟨#[97]⟩, ⟨#[98]⟩, ⟨#[99]⟩, ⟨#[100]⟩] : List ByteArray).getD j .empty
def gN (j : Nat) : Grant := ⟨nmL j, 1 + (j : Int)⟩
abbrev namesD : List D := [sD ⟨#[97]⟩, sD ⟨#[98]⟩, sD ⟨#[99]⟩, sD ⟨#[100]⟩]
def subL : Nat → List (List Grant)
 | 0 => [[]]
 | i + 1 => subL i ++ (subL i).map (· ++ [gN i])
theorem zmP {i : Nat} {l : List Grant} (h : l ∈ subL i) : l ∈ subL (i + 1) := by rw [subL]; exact List.mem_append_left _ h
theorem zli {i : Nat} {l : List Grant} (h : l ∈ subL i) : l ++ [gN i] ∈ subL (i + 1) := by rw [subL]; exact List.mem_append_right _ (List.mem_map_of_mem h)
def wantP (l : List Grant) (s : ByteArray) : List Grant := l.filter fun g => g.name.toList != s.toList
theorem zlj : ((subL 4).all fun l => replyB (rp4 l) && ((List.range 4).all fun k => replyB (rp4 (wantP l (nmL k))))) = true := by kernel_rfl
theorem zmQ {l : List Grant} (h : l ∈ subL 4) : replyB (rp4 l) = true ∧ ∀ k, k < 4 → replyB (rp4 (wantP l (nmL k))) = true := by
 have := List.all_eq_true.1 zlj l h
 simp only [Bool.and_eq_true, List.all_eq_true, List.mem_range] at this
 exact this
theorem zfA (l : List Grant) : sameG l l = true := by
 unfold sameG
 rw [beq_self_eq_true, Bool.true_and, List.all_eq_true]
 intro p hp
 have : p.1 = p.2 := by
  obtain ⟨i, h1, h2⟩ := List.getElem_of_mem hp
  rw [← h2, List.getElem_zip]
 rw [this, eqG, beq_self_eq_true, beq_self_eq_true]; rfl
theorem zg6 {K : Cl} {kind : Int} {name : ByteArray} (h : askOk kind name = true) (hl : K.asks.length < 4) : askQ K kind name = ({ K with asks := K.asks ++ [⟨kind, 0, name⟩] }, 0) := by
 unfold askQ
 rw [if_neg (by rw [h]; simp), if_neg (by omega)]
abbrev homeC (s : Nat) (K : Cl) : Nat × RS := (s, { next := 2, l := [some { e := 1, var := true, fz := false, sz := 0, cells := [di K.c.replicas, di K.c.clients, di K.c.lease, di K.c.rho, di K.c.base, di K.c.cap, di K.c.beat, di K.c.wait, di K.c.sweep, di K.c.retry, di K.c.keep,
 di K.id, di K.session, .d (.sl K.has.length (grantsE K.has)), di K.till, .own ⟨s, 16, 1⟩ 0 K.asks.length, db K.busy,
 di K.out.client, di K.out.seq, di K.out.kind, di K.out.session, dS K.out.name, di K.first, db K.sent, di K.last, di K.seq, di K.turn] }, none, none, none, none, none, none, none, none, none, none, none, none, none, none, none,
 some { e := 1, var := false, fz := false, sz := 3, cells := (cmsE K.asks).map C.d }, none, none, none, none, none, none, none, none, none, none, none] })
theorem zlk {l : List Grant} {s : ByteArray} {i : Nat} (hi : i < l.length) : wantP (l.drop i) s = if (l[i].name.toList != s.toList) = true then l[i] :: wantP (l.drop (i + 1)) s else wantP (l.drop (i + 1)) s := by
 rw [List.drop_eq_getElem_cons hi, wantP, List.filter_cons]; rfl
theorem zkk {k : Nat} (h : k < 4) : nameP (nmL k) = true := by
 rcases (show k = 0 ∨ k = 1 ∨ k = 2 ∨ k = 3 by omega) with rfl | rfl | rfl | rfl <;> kernel_rfl
theorem zfB {l : List Grant} {s : ByteArray} : heldP [⟨5, 0, s⟩] l = wantP l s := by
 unfold heldP wantP
 congr 1
 funext g
 simp only [List.any_cons, List.any_nil, letsQ, Bool.or_false]
 rw [show ((5 : Int) == 6) = false from rfl, show ((5 : Int) == 5) = true from rfl, Bool.false_or, Bool.true_and, bne]
 congr 1
 rw [Bool.eq_iff_iff]
 simp only [beq_iff_eq]
 exact eq_comm
theorem zkl {i : Nat} (hi : i < 4) : ∃ rest, List.drop i (namesD.map C.d) = C.d (sD (nmL i)) :: rest := by
 rcases (show i = 0 ∨ i = 1 ∨ i = 2 ∨ i = 3 by omega) with rfl | rfl | rfl | rfl <;> exact ⟨_, rfl⟩
set_option maxHeartbeats 4000000 in
theorem zgl (bits name : Int) (cl : Bool) (hb8 : byteI bits) (hn : byteI name) :
  CallOK Tryz.prog 5 [.f (au bits), .f (au name), .f (ab cl)] (fun r o => r = [rb true] ∧ o = []) := by
 refine zaq zaB mixed (T := Ty) (n := 151) Tryz.func5 (c := Tryz.f5.body.getD .skip) rfl Tryz.results5 Tryz.ntmps5 Tryz.call5 ?_
 simp only [Tryz.f5, Option.getD]
 repeat' (first | (with_reducible first | refine zaa _ _ ?_ | refine zaf ?_ | refine zah ?_) | rw [zai] | simp only [pkS, TyB, pkY, Int.reduceEq, bne_self_eq_false, Int.reduceBEq, Int.reduceBNe, implies_true, forall_const, Nat.reduceSub, Nat.reduceEqDiff, Nat.reduceAdd, Nat.reduceMul, Nat.reduceLeDiff, Nat.reduceLT, Nat.reduceBEq, reduceCtorEq] | refine zab ?_ | refine zad (fun hb => ?_) (fun hb => ?_) | (refine And.intro ?_ ?_; focus ((try with_reducible refine zaj ?_); first | (with_reducible rfl) | ((with_reducible first | refine zak ?_ | refine zae ?_ | refine zac ?_); kernel_rfl) | (intros; omega) | (intro q p; rw [q, p]; rfl) | (intro q; rw [q]; rfl) | (intro q; simp only [Bool.and_eq_true, decide_eq_true_eq, beq_iff_eq] at q; omega) | (intros; simp [List.range, List.range.loop]; done) | (intros; simp_all [List.range, List.range.loop]; done))) | refine And.intro (fun hg => ?_) (fun hg => ?_) | (with_reducible refine zac ?_; kernel_rfl) | fail)
 refine zaU (τ := Nat × List Grant) (fun t => ⟨[au bits, au name, ab cl, dd, dd, dd, dd, .one (.own ⟨7, 1, 1⟩ 0 4), .one (.own ⟨8, 1, 1⟩ 0 t.2.length), ai t.1, dd, dd, dd, dd, dd, dd, dd, dd, dd, dd, dd, dd, dd, dd, dd, dd, dd, dd, dd, dd, dd, dd, dd, dd, dd, dd, dd, dd, dd, dd, dd, dd, dd, dd, dd, dd, dd, dd, dd, dd, dd, dd, dd, dd, dd, dd, dd, dd, dd, dd, dd, dd, dd, dd, dd, dd, dd, dd, dd, dd, dd, dd, dd, dd, dd, dd, dd, dd, dd, dd, dd, dd, dd, dd, dd, dd, dd, dd, dd, dd, dd, dd, dd, dd, dd, dd, dd, dd, dd, dd, dd, dd, dd, dd, dd, dd, dd, dd, dd, dd, dd, dd, dd, dd, dd, dd, dd, dd, dd, dd, dd, dd, dd, dd, dd, dd, dd, dd, dd, dd, dd, dd, dd, dd, dd, dd, dd, dd, dd, dd, dd, dd, dd, dd, dd, dd, dd, dd, dd, dd, dd], [(19, ⟨2, []⟩), (7, { next := 2, l := [none, some { e := 1, var := false, fz := false, sz := 1, cells := (namesD).map C.d }] }), (8, { next := 2, l := [none, some { e := 1, var := false, fz := false, sz := 2, cells := (grantsE t.2).map C.d }] }), (38, ⟨2, []⟩), (39, ⟨2, []⟩)]⟩)
  (fun t => t.1 ≤ 4 ∧ t.2.length ≤ t.1 ∧ t.2 ∈ subL t.1) (fun t => ()) (fun t => 4 - t.1) (0, [])
  ((Gh.nil (i := 8) (s := 8) (sz := 2) rfl).trans (Gh.canon [7, 8] [38, 39] [] (by simp only [zar, zaC, zas, zau, zav, zaw, List.set_cons_zero, List.set_cons_succ, and_true, true_and, Int.natCast_zero, Int.cast_ofNat_Int, D.v.injEq, Value.int.injEq]; try (repeat' (first | rfl | omega | with_reducible apply And.intro))) rfl rfl)) ⟨Nat.zero_le _, Nat.le_refl _, by simp [subL]⟩ ?_
 intro ⟨i, acc⟩ ⟨hi0, ha, hsb⟩ hF Kx hK
 simp only at hi0 ha hsb hF hK ⊢
 repeat (first | with_reducible refine zaa _ _ ?_ | with_reducible refine And.imp_right (zaa _ _) ?_ | with_reducible refine And.imp_right (And.imp_right (zaa _ _)) ?_ | with_reducible refine And.imp_right (And.imp_right (And.imp_right (zaa _ _))) ?_ | rw [zai] | simp only [pkS, TyB,  implies_true, forall_const, Nat.reduceSub, Nat.reduceEqDiff, Nat.reduceAdd, Nat.reduceMul, Nat.reduceLeDiff, Nat.reduceLT, Nat.reduceBEq, reduceCtorEq])
 refine zad (fun hlt => ?_) (fun hge => ?_)
 ·have hi : i < 4 := by simp at hlt; omega
  have w1 : IntKind.u64.wrap (i : Int) = (i : Int) := by
   rcases (show i = 0 ∨ i = 1 ∨ i = 2 ∨ i = 3 by omega) with rfl | rfl | rfl | rfl <;> rfl
  have w2 : ¬ ((i : Int) < 0) := by omega
  have w3 : min i IntKind.u8.bits = i := Nat.min_eq_left (by rw [show IntKind.u8.bits = 8 from rfl]; omega)
  obtain ⟨rest, hd⟩ := zkl hi
  simp only [List.map_cons, List.map_nil] at hd
  have hw := za0 hi (by decide)
  have w4 : IntKind.i64.wrap (1 + (i : Int)) = 1 + (i : Int) := wrap64 (by omega) (by omega)
  have hle : (acc.length + 1 ≤ 2 ^ 47) = True := eq_true (by omega)
  repeat' (first | (with_reducible first | refine zaa _ _ ?_ | refine zaf ?_ | refine zah ?_) | rw [zai] | simp only [pkS, TyB, w1, if_neg w2, w3, hd, w4, zaE, hle, pkY, Int.reduceEq, bne_self_eq_false, Int.reduceBEq, Int.reduceBNe, implies_true, forall_const, Nat.reduceSub, Nat.reduceEqDiff, Nat.reduceAdd, Nat.reduceMul, Nat.reduceLeDiff, Nat.reduceLT, Nat.reduceBEq, reduceCtorEq] | refine zab ?_ | refine zad (fun hb => ?_) (fun hb => ?_) | (refine And.intro ?_ ?_; focus ((try with_reducible refine zaj ?_); first | (with_reducible rfl) | ((with_reducible first | refine zak ?_ | refine zae ?_ | refine zac ?_); kernel_rfl) | (intros; omega) | (intro q p; rw [q, p]; rfl) | (intro q; rw [q]; rfl) | (intro q; simp only [Bool.and_eq_true, decide_eq_true_eq, beq_iff_eq] at q; omega) | (intros; simp [List.range, List.range.loop]; done) | (intros; simp_all [List.range, List.range.loop]; done))) | refine And.intro (fun hg => ?_) (fun hg => ?_) | (with_reducible refine zac ?_; kernel_rfl) | fail)
  ·exact hK _ (i + 1, acc ++ [gN i]) (Gh.canon [7, 8] [] [] (by simp only [hw, List.length_append, List.length_singleton, zar, zaC, zas, zau, zav, zaw, List.set_cons_zero, List.set_cons_succ, and_true, true_and, Int.natCast_zero, Int.cast_ofNat_Int, D.v.injEq, Value.int.injEq]; try (repeat' (first | rfl | omega | with_reducible apply And.intro))) rfl (by simp only [List.length_append, List.length_singleton]; rw [zbR]; rfl)) ⟨hi, by simp only [List.length_append, List.length_singleton]; omega, zli hsb⟩ trivial (by simp only; omega)
  ·exact hK _ (i + 1, acc) (Gh.canon [7, 8] [] [] (by simp only [hw, zar, zaC, zas, zau, zav, zaw, List.set_cons_zero, List.set_cons_succ, and_true, true_and, Int.natCast_zero, Int.cast_ofNat_Int, D.v.injEq, Value.int.injEq]; try (repeat' (first | rfl | omega | with_reducible apply And.intro))) rfl rfl) ⟨hi, by simp only; omega, zmP hsb⟩ trivial (by simp only; omega)
 ·have hi : i = 4 := by
   have : ¬ (i : Int) < 4 := by simpa using hge
   omega
  subst hi
  obtain ⟨hh, hwm⟩ := zmQ hsb
  have hop := ziN acc hh
  obtain ⟨K0, hK0⟩ : ∃ K, K = kOp acc := ⟨_, rfl⟩
  rw [← hK0] at hop
  have f1 : K0.session = 4 := by rw [hK0]; rfl
  have f2 : K0.asks = [] := by rw [hK0]; rfl
  have f3 : K0.has = acc := by rw [hK0]; rfl
  have f4 : K0.till = 49 := by rw [hK0]; rfl
  have f5 : K0.busy = false := by rw [hK0]; rfl
  have hq1 : heldQ K0 1 = acc := by
   unfold heldQ
   rw [f4, if_neg (by decide), f2, f3, heldP]
   exact List.filter_eq_self.2 fun _ _ => rfl
  have hh1 := zeX K0 1 (by decide) (by rw [f2]; decide) (by rw [f3]; omega)
  rw [hq1] at hh1
  have hsg := zcg acc acc (by omega) (by omega)
  rw [zfA] at hsg
  have hse := ziQ K0
  rw [f1] at hse
  have g4 : ((4 : Int) != 4) = false := rfl
  unfold byteI at hn
  obtain ⟨k, hk⟩ : ∃ k, k = (name % 4).toNat := ⟨_, rfl⟩
  have hk4 : k < 4 := by omega
  have w1 : name.tmod 4 = (k : Int) := by rw [Int.tmod_eq_emod_of_nonneg hn.1]; omega
  have w2 : IntKind.u8.wrap (k : Int) = (k : Int) := zdc (by omega) (by omega)
  obtain ⟨rest, hd⟩ := zkl hk4
  simp only [List.map_cons, List.map_nil] at hd
  repeat' (first | (with_reducible first | refine zev 8 ?_ | refine zdj 8 ?_ | refine zdk 8 ?_) | (with_reducible first | refine zaa _ _ ?_ | refine zaf ?_ | refine zah ?_) | rw [zai] | simp only [pkS, TyB, pkY, Int.reduceEq, bne_self_eq_false, Int.reduceBEq, Int.reduceBNe, implies_true, forall_const, Nat.reduceSub, Nat.reduceEqDiff, Nat.reduceAdd, Nat.reduceMul, Nat.reduceLeDiff, Nat.reduceLT, Nat.reduceBEq, reduceCtorEq] | refine zab ?_ | refine zad (fun hb => ?_) (fun hb => ?_) | (refine And.intro ?_ ?_; focus ((try with_reducible refine zaj ?_); first | (with_reducible rfl) | ((with_reducible first | refine zak ?_ | refine zae ?_ | refine zac ?_); kernel_rfl) | (intros; omega) | (intro q p; rw [q, p]; rfl) | (intro q; rw [q]; rfl) | (intro q; simp only [Bool.and_eq_true, decide_eq_true_eq, beq_iff_eq] at q; omega) | (intros; simp [List.range, List.range.loop]; done) | (intros; simp_all [List.range, List.range.loop]; done))) | refine And.intro (fun hg => ?_) (fun hg => ?_) | (with_reducible refine zac ?_; kernel_rfl) | fail)
  refine zey (zex (Gh.sealV 8 (x := .own ⟨8, 1, 1⟩ 0 acc.length) (d := .sl acc.length (grantsE acc)) rfl (by simp only [pkS, TyB, pkY, implies_true, forall_const, Nat.reduceSub, Nat.reduceEqDiff, Nat.reduceAdd, Nat.reduceMul, Nat.reduceLeDiff, Nat.reduceLT, Nat.reduceBEq, reduceCtorEq]; rfl)) ?_)
  simp only [pkS, TyB,  implies_true, forall_const, Nat.reduceSub, Nat.reduceEqDiff, Nat.reduceAdd, Nat.reduceMul, Nat.reduceLeDiff, Nat.reduceLT, Nat.reduceBEq, reduceCtorEq]
  cases cl
  ·repeat' (first | (with_reducible first | refine zaa _ _ ?_ | refine zaf ?_ | refine zah ?_) | rw [zai] | simp only [pkS, TyB, zaJ, g4, w1, w2, hd, pkY, Int.reduceEq, bne_self_eq_false, Int.reduceBEq, Int.reduceBNe, implies_true, forall_const, Nat.reduceSub, Nat.reduceEqDiff, Nat.reduceAdd, Nat.reduceMul, Nat.reduceLeDiff, Nat.reduceLT, Nat.reduceBEq, reduceCtorEq] | ((first | ((try refine zal ?_); apply zao) | (apply zam; intro _)); (solve | exact (hh1) | exact (hsg) | exact (hse) | (refine CallOK.le (hh1) ?_; simp [argsLe, aLe, csLe, cLe]) | (refine CallOK.le (hsg) ?_; simp [argsLe, aLe, csLe, cLe]) | (refine CallOK.le (hse) ?_; simp [argsLe, aLe, csLe, cLe])); try case hn => rfl) | refine zbS (hop) ?_ | (refine zbS (CallP.le (hop) ?_) ?_; focus (simp [argsLe, aLe, csLe, cLe] <;> fail)) | refine zab ?_ | refine zad (fun hb => ?_) (fun hb => ?_) | (refine And.intro ?_ ?_; focus ((try with_reducible refine zaj ?_); first | (with_reducible rfl) | ((with_reducible first | refine zak ?_ | refine zae ?_ | refine zac ?_); kernel_rfl) | (intros; omega) | (intro q p; rw [q, p]; rfl) | (intro q; rw [q]; rfl) | (intro q; simp only [Bool.and_eq_true, decide_eq_true_eq, beq_iff_eq] at q; omega) | (intros; simp [List.range, List.range.loop]; done) | (intros; simp_all [List.range, List.range.loop]; done))) | refine And.intro (fun hg => ?_) (fun hg => ?_) | (with_reducible refine zac ?_; kernel_rfl) | fail)
   have hak := zhA K0 5 (nmL k) (by have := zkk hk4; unfold nameP at this; simp only [Bool.and_eq_true, decide_eq_true_eq] at this; omega) (by rw [f2]; decide)
   rw [zg6 (show askOk 5 (nmL k) = true from zkk hk4) (by rw [f2]; simp), f2] at hak
   obtain ⟨K1, hK1⟩ : ∃ K, K = ({ K0 with asks := [⟨5, 0, nmL k⟩] } : Cl) := ⟨_, rfl⟩
   rw [List.nil_append, ← hK1] at hak
   have e1 : K1.till = 49 := by rw [hK1]; exact f4
   have e2 : K1.asks = [⟨5, 0, nmL k⟩] := by rw [hK1]
   have e3 : K1.has = acc := by rw [hK1]; exact f3
   have e4 : K1.session = 4 := by rw [hK1]; exact f1
   have e5 : K1.busy = false := by rw [hK1]; exact f5
   have e6 : K1.c = conf0 ∧ K1.id = 0 ∧ K1.seq = 2 ∧ K1.last = 0 ∧ K1.first = 0 := by rw [hK1, hK0]; exact ⟨rfl, rfl, rfl, rfl, rfl⟩
   refine zaM (mv := ?mv1) (lent := ?le1) (x := ?x1) (ass := ?ass1) ?ha1 (hak) ?hr1 rfl ?hs1 ?hb1 ?hc1
   case ha1 => (try simp only [pkS, TyB, pkY, Int.reduceEq, bne_self_eq_false, Int.reduceBEq, Int.reduceBNe, implies_true, forall_const, Nat.reduceSub, Nat.reduceEqDiff, Nat.reduceAdd, Nat.reduceMul, Nat.reduceLeDiff, Nat.reduceLT, Nat.reduceBEq, reduceCtorEq]); exact rfl
   case hr1 => simp [rosA, roA]
   case hs1 => simp [argsLe, aLe, csLe, cLe]
   case hb1 => (try simp only [pkS, TyB, scM, implies_true, forall_const, Nat.reduceSub, Nat.reduceEqDiff, Nat.reduceAdd, Nat.reduceMul, Nat.reduceLeDiff, Nat.reduceLT, Nat.reduceBEq, reduceCtorEq]); repeat' (first | rfl | trivial | omega | with_reducible refine And.intro ?_ ?_)
   show aops _ _ _ _ _ _ _ _
   repeat' (first | (with_reducible first | refine zaa _ _ ?_ | refine zaf ?_ | refine zah ?_) | rw [zai] | simp only [pkS, TyB, pkY, Int.reduceEq, bne_self_eq_false, Int.reduceBEq, Int.reduceBNe, implies_true, forall_const, Nat.reduceSub, Nat.reduceEqDiff, Nat.reduceAdd, Nat.reduceMul, Nat.reduceLeDiff, Nat.reduceLT, Nat.reduceBEq, reduceCtorEq] | refine zab ?_ | refine zad (fun hb => ?_) (fun hb => ?_) | (refine And.intro ?_ ?_; focus ((try with_reducible refine zaj ?_); first | (with_reducible rfl) | ((with_reducible first | refine zak ?_ | refine zae ?_ | refine zac ?_); kernel_rfl) | (intros; omega) | (intro q p; rw [q, p]; rfl) | (intro q; rw [q]; rfl) | (intro q; simp only [Bool.and_eq_true, decide_eq_true_eq, beq_iff_eq] at q; omega) | (intros; simp [List.range, List.range.loop]; done) | (intros; simp_all [List.range, List.range.loop]; done))) | refine And.intro (fun hg => ?_) (fun hg => ?_) | (with_reducible refine zac ?_; kernel_rfl) | fail)
   clear hak hh1 hse hop hK hF
   refine zaU (τ := Nat × List Grant) (fun t => ⟨[dd, dd, dd, dd, dd, dd, dd, dd, asl acc.length (grantsE acc), dd, .one (.ptr ⟨41, 0, 1⟩ 0), ast (nmL k), dd, ai 0, .one (.own ⟨14, 1, 1⟩ 0 t.2.length), ai t.1, dd, dd, dd, dd, dd, dd, dd, dd, dd, dd, dd, dd, dd, dd, dd, dd, dd, dd, dd, dd, dd, dd, dd, dd, dd, dd, dd, dd, dd, dd, dd, dd, dd, dd, dd, dd, dd, dd, dd, dd, dd, dd, dd, dd, dd, dd, dd, dd, dd, dd, dd, dd, dd, dd, dd, dd, dd, dd, dd, dd, dd, dd, dd, dd, dd, dd, dd, dd, dd, dd, dd, dd, dd, dd, dd, dd, dd, dd, dd, dd, dd, dd, dd, dd, dd, dd, dd, dd, dd, dd, dd, dd, dd, dd, dd, dd, dd, dd, dd, dd, dd, dd, dd, dd, dd, dd, dd, dd, dd, dd, dd, dd, dd, dd, dd, dd, dd, dd, dd, dd, dd, dd, dd, dd, dd, dd, dd, dd, dd, dd, dd, dd, dd, dd, dd], [(19, ⟨2, []⟩), (7, ⟨2, []⟩), (8, ⟨2, []⟩), (38, ⟨2, []⟩), (39, ⟨2, []⟩), homeC 41 K1, (14, { next := 2, l := [none, some { e := 1, var := false, fz := false, sz := 2, cells := (grantsE t.2).map C.d }] }), (96, ⟨2, []⟩), (97, ⟨2, []⟩)]⟩)
    (fun t => t.1 ≤ acc.length ∧ t.2.length ≤ t.1) (fun t => t.2 ++ wantP (acc.drop t.1) (nmL k)) (fun t => acc.length - t.1) (0, [])
    ((Gh.nil (i := 14) (s := 14) (sz := 2) rfl).trans (Gh.canon [41, 14] [96, 97] [] (by simp only [zar, zaC, zas, zau, zav, zaw, List.set_cons_zero, List.set_cons_succ, and_true, true_and, Int.natCast_zero, Int.cast_ofNat_Int, D.v.injEq, Value.int.injEq]; try (repeat' (first | rfl | omega | with_reducible apply And.intro))) rfl rfl)) ⟨Nat.zero_le _, Nat.le_refl _⟩ ?_
   intro ⟨i, w⟩ ⟨hi0, hw0⟩ hF Kx hK
   simp only [List.drop_zero, List.nil_append] at hi0 hw0 hF hK ⊢
   repeat (first | with_reducible refine zaa _ _ ?_ | with_reducible refine And.imp_right (zaa _ _) ?_ | with_reducible refine And.imp_right (And.imp_right (zaa _ _)) ?_ | with_reducible refine And.imp_right (And.imp_right (And.imp_right (zaa _ _))) ?_ | rw [zai] | simp only [pkS, TyB,  implies_true, forall_const, Nat.reduceSub, Nat.reduceEqDiff, Nat.reduceAdd, Nat.reduceMul, Nat.reduceLeDiff, Nat.reduceLT, Nat.reduceBEq, reduceCtorEq])
   refine zad (fun hlt => ?_) (fun hge => ?_)
   ·have hi : i < acc.length := by simpa using hlt
    have hat := zaQ hi
    have hw := za0 hi (by omega)
    have hle : (w.length + 1 ≤ 2 ^ 47) = True := eq_true (by omega)
    have hq := zlk (s := nmL k) hi
    cases hc : (acc[i].name.toList == (nmL k).toList)
    ·rw [bne, hc, Bool.not_false, if_pos rfl] at hq
     repeat' (first | (with_reducible first | refine zaa _ _ ?_ | refine zaf ?_ | refine zah ?_) | rw [zai] | simp only [pkS, TyB, hat, hc, List.cons_append, List.nil_append, zaE, hle, pkY, Int.reduceEq, bne_self_eq_false, Int.reduceBEq, Int.reduceBNe, implies_true, forall_const, Nat.reduceSub, Nat.reduceEqDiff, Nat.reduceAdd, Nat.reduceMul, Nat.reduceLeDiff, Nat.reduceLT, Nat.reduceBEq, reduceCtorEq] | refine zab ?_ | refine zad (fun hb => ?_) (fun hb => ?_) | (refine And.intro ?_ ?_; focus ((try with_reducible refine zaj ?_); first | (with_reducible rfl) | ((with_reducible first | refine zak ?_ | refine zae ?_ | refine zac ?_); kernel_rfl) | (intros; omega) | (intro q p; rw [q, p]; rfl) | (intro q; rw [q]; rfl) | (intro q; simp only [Bool.and_eq_true, decide_eq_true_eq, beq_iff_eq] at q; omega) | (intros; simp [List.range, List.range.loop]; done) | (intros; simp_all [List.range, List.range.loop]; done))) | refine And.intro (fun hg => ?_) (fun hg => ?_) | (with_reducible refine zac ?_; kernel_rfl) | fail)
     refine hK _ (i + 1, w ++ [acc[i]]) (Gh.canon [41, 14] [] [] (by simp only [hw, List.length_append, List.length_singleton, zar, zaC, zas, zau, zav, zaw, List.set_cons_zero, List.set_cons_succ, and_true, true_and, Int.natCast_zero, Int.cast_ofNat_Int, D.v.injEq, Value.int.injEq]; try (repeat' (first | rfl | omega | with_reducible apply And.intro))) rfl (by simp only [List.length_append, List.length_singleton]; rw [zbR]; rfl)) ⟨hi, by simp only [List.length_append, List.length_singleton]; omega⟩ ?_ (by simp only; omega)
     simp only
     rw [hq, List.append_assoc, List.singleton_append]
    ·rw [bne, hc, Bool.not_true, if_neg (by simp)] at hq
     repeat' (first | (with_reducible first | refine zaa _ _ ?_ | refine zaf ?_ | refine zah ?_) | rw [zai] | simp only [pkS, TyB, hat, hc, List.cons_append, List.nil_append, zaE, pkY, Int.reduceEq, bne_self_eq_false, Int.reduceBEq, Int.reduceBNe, implies_true, forall_const, Nat.reduceSub, Nat.reduceEqDiff, Nat.reduceAdd, Nat.reduceMul, Nat.reduceLeDiff, Nat.reduceLT, Nat.reduceBEq, reduceCtorEq] | refine zab ?_ | refine zad (fun hb => ?_) (fun hb => ?_) | (refine And.intro ?_ ?_; focus ((try with_reducible refine zaj ?_); first | (with_reducible rfl) | ((with_reducible first | refine zak ?_ | refine zae ?_ | refine zac ?_); kernel_rfl) | (intros; omega) | (intro q p; rw [q, p]; rfl) | (intro q; rw [q]; rfl) | (intro q; simp only [Bool.and_eq_true, decide_eq_true_eq, beq_iff_eq] at q; omega) | (intros; simp [List.range, List.range.loop]; done) | (intros; simp_all [List.range, List.range.loop]; done))) | refine And.intro (fun hg => ?_) (fun hg => ?_) | (with_reducible refine zac ?_; kernel_rfl) | fail)
     refine hK _ (i + 1, w) (Gh.canon [41, 14] [] [] (by simp only [hw, zar, zaC, zas, zau, zav, zaw, List.set_cons_zero, List.set_cons_succ, and_true, true_and, Int.natCast_zero, Int.cast_ofNat_Int, D.v.injEq, Value.int.injEq]; try (repeat' (first | rfl | omega | with_reducible apply And.intro))) rfl rfl) ⟨hi, by simp only; omega⟩ ?_ (by simp only; omega)
     simp only
     rw [hq]
   ·have hi : i = acc.length := by
     have : ¬ (i : Int) < acc.length := by simpa using hge
     omega
    rw [hi, List.drop_length] at hF
    simp only [wantP, List.filter_nil, List.append_nil] at hF
    have hwq : wantP acc (nmL k) = w := hF.symm
    have hwl : w.length ≤ 4 := by omega
    have hwr : replyB (rp4 w) = true := by rw [← hwq]; exact hwm k hk4
    have hq1' : heldQ K1 1 = w := by
     unfold heldQ
     rw [e1, if_neg (by decide), e2, e3, zfB, hwq]
    have hh1 := zeX K1 1 (by decide) (by rw [e2]; simp) (by rw [e3]; omega)
    rw [hq1'] at hh1
    have hsg := zcg w w (by omega) (by omega)
    rw [zfA] at hsg
    have hmp : mayP (⟨5, 0, nmL k⟩ : Cm).kind K1.session (⟨5, 0, nmL k⟩ : Cm).name = true := by
     rw [e4]
     have := zkk hk4
     simp only [mayP, this]
     rfl
    have hst := zim K1 1 ⟨5, 0, nmL k⟩ [] (by decide) (by rw [e4]; rfl) e2 (by rw [e2]; simp) e5 (by rw [e6.2.2.1]; decide) (by rw [e6.2.1]; decide) hmp
    obtain ⟨K2, hK2⟩ : ∃ K, K = goQ K1 1 5 4 (nmL k) := ⟨_, rfl⟩
    rw [e4] at hst
    simp only at hst
    rw [← hK2] at hst
    have k1 : K2.till = 49 := by rw [hK2]; exact e1
    have k2 : K2.asks = [⟨5, 0, nmL k⟩] := by rw [hK2]; exact e2
    have k3 : K2.has = acc := by rw [hK2]; exact e3
    have k4 : K2.busy = true := by rw [hK2]; rfl
    have k5 : K2.out.kind = 5 ∧ K2.out.session = 4 ∧ K2.out.name = nmL k ∧ K2.out.seq = 3 := by
     rw [hK2]
     refine ⟨rfl, rfl, rfl, ?_⟩
     show K1.seq + 1 = 3
     rw [e6.2.2.1]; rfl
    have k6 : K2.c = conf0 ∧ K2.id = 0 ∧ K2.first = 1 := by rw [hK2]; exact ⟨e6.1, e6.2.1, rfl⟩
    have hou := zlu K2 k4
    have hq2 : heldQ K2 2 = w := by
     unfold heldQ
     rw [k1, if_neg (by decide), k2, k3, zfB, hwq]
    have hh2 := zeX K2 2 (by decide) (by rw [k2]; simp) (by rw [k3]; omega)
    rw [hq2] at hh2
    have hm3 : answerB ⟨0, 3, rp4 w⟩ = true := by
     unfold answerB
     rw [hwr]; rfl
    obtain ⟨b3, eb3⟩ : ∃ b, b = packAI ⟨0, 3, rp4 w⟩ := ⟨_, rfl⟩
    have hb3 : CallOK Tryz.prog 18 [.f (ai 0), .f (ai 3), .f (.agg [di 0, di 4, di 0, .d (.sl w.length (grantsE w))])] (fun x o => x = [.one (.d (.sl b3.length (bytesE b3)))] ∧ o = []) := by
     rw [eb3]; exact zeU ⟨0, 3, rp4 w⟩ hm3
    have ht3 := zgn K2 ⟨0, 3, rp4 w⟩ b3 hm3 eb3 k4 (by rw [k2]; simp) (by rw [k6.1]; exact zdd) (by rw [k6.2.2]; decide) (fun _ _ => by rw [k2]; simp) k6.2.1.symm k5.2.2.2.symm
    obtain ⟨K3, hK3⟩ : ∃ K, K = takeQ K2 (rp4 w) := ⟨_, rfl⟩
    simp only at ht3
    rw [← hK3] at ht3
    have hT : K3.till = 50 ∧ K3.asks = [] ∧ K3.has = w := by
     rw [hK3]
     unfold takeQ
     rw [k5.1, k2, k1]
     unfold sureQ
     rw [k6.1, k6.2.2]
     exact ⟨rfl, rfl, rfl⟩
    have hq3 : heldQ K3 2 = w := by
     unfold heldQ
     rw [hT.1, if_neg (by decide), hT.2.1, hT.2.2, heldP]
     exact List.filter_eq_self.2 fun _ _ => rfl
    have hh3 := zeX K3 2 (by decide) (by rw [hT.2.1]; simp) (by rw [hT.2.2]; omega)
    rw [hq3] at hh3
    have has := zlt K3 (by rw [hT.2.1]; simp)
    have z0 : ((0 : Int) != 0) = false := rfl
    have z1 : (K2.out.kind == 5) = true := by rw [k5.1]; rfl
    have z2 : (K2.out.session == 4) = true := by rw [k5.2.1]; rfl
    have z3 : (K2.out.name.toList == (nmL k).toList) = true := by rw [k5.2.2.1]; simp
    have z4 : ((K3.asks.length : Int) == 0) = true := by rw [hT.2.1]; rfl
    repeat' (first | (with_reducible first | refine zev 22 ?_ | refine zdj 22 ?_ | refine zdk 22 ?_) | (with_reducible first | refine zaa _ _ ?_ | refine zaf ?_ | refine zah ?_) | rw [zai] | simp only [pkS, TyB, pkY, Int.reduceEq, bne_self_eq_false, Int.reduceBEq, Int.reduceBNe, implies_true, forall_const, Nat.reduceSub, Nat.reduceEqDiff, Nat.reduceAdd, Nat.reduceMul, Nat.reduceLeDiff, Nat.reduceLT, Nat.reduceBEq, reduceCtorEq] | refine zab ?_ | refine zad (fun hb => ?_) (fun hb => ?_) | (refine And.intro ?_ ?_; focus ((try with_reducible refine zaj ?_); first | (with_reducible rfl) | ((with_reducible first | refine zak ?_ | refine zae ?_ | refine zac ?_); kernel_rfl) | (intros; omega) | (intro q p; rw [q, p]; rfl) | (intro q; rw [q]; rfl) | (intro q; simp only [Bool.and_eq_true, decide_eq_true_eq, beq_iff_eq] at q; omega) | (intros; simp [List.range, List.range.loop]; done) | (intros; simp_all [List.range, List.range.loop]; done))) | refine And.intro (fun hg => ?_) (fun hg => ?_) | (with_reducible refine zac ?_; kernel_rfl) | fail)
    refine zey (zex (Gh.sealV 14 (x := .own ⟨14, 1, 1⟩ 0 w.length) (d := .sl w.length (grantsE w)) rfl (by simp only [pkS, TyB, pkY, implies_true, forall_const, Nat.reduceSub, Nat.reduceEqDiff, Nat.reduceAdd, Nat.reduceMul, Nat.reduceLeDiff, Nat.reduceLT, Nat.reduceBEq, reduceCtorEq]; rfl)) ?_)
    simp only [pkS, TyB,  implies_true, forall_const, Nat.reduceSub, Nat.reduceEqDiff, Nat.reduceAdd, Nat.reduceMul, Nat.reduceLeDiff, Nat.reduceLT, Nat.reduceBEq, reduceCtorEq]
    repeat' (first | (with_reducible first | refine zaa _ _ ?_ | refine zaf ?_ | refine zah ?_) | rw [zai] | simp only [pkS, TyB, z0, zaJ, pkY, Int.reduceEq, bne_self_eq_false, Int.reduceBEq, Int.reduceBNe, implies_true, forall_const, Nat.reduceSub, Nat.reduceEqDiff, Nat.reduceAdd, Nat.reduceMul, Nat.reduceLeDiff, Nat.reduceLT, Nat.reduceBEq, reduceCtorEq] | ((first | ((try refine zal ?_); apply zao) | (apply zam; intro _)); (solve | exact (hh1) | exact (hsg) | (refine CallOK.le (hh1) ?_; simp [argsLe, aLe, csLe, cLe]) | (refine CallOK.le (hsg) ?_; simp [argsLe, aLe, csLe, cLe])); try case hn => rfl) | refine zab ?_ | refine zad (fun hb => ?_) (fun hb => ?_) | (refine And.intro ?_ ?_; focus ((try with_reducible refine zaj ?_); first | (with_reducible rfl) | ((with_reducible first | refine zak ?_ | refine zae ?_ | refine zac ?_); kernel_rfl) | (intros; omega) | (intro q p; rw [q, p]; rfl) | (intro q; rw [q]; rfl) | (intro q; simp only [Bool.and_eq_true, decide_eq_true_eq, beq_iff_eq] at q; omega) | (intros; simp [List.range, List.range.loop]; done) | (intros; simp_all [List.range, List.range.loop]; done))) | refine And.intro (fun hg => ?_) (fun hg => ?_) | (with_reducible refine zac ?_; kernel_rfl) | fail)
    refine zaM (mv := ?mv2) (lent := ?le2) (x := ?x2) (ass := ?ass2) ?ha2 (hst) ?hr2 rfl ?hs2 ?hb2 ?hc2
    case ha2 => (try simp only [pkS, TyB, pkY, Int.reduceEq, bne_self_eq_false, Int.reduceBEq, Int.reduceBNe, implies_true, forall_const, Nat.reduceSub, Nat.reduceEqDiff, Nat.reduceAdd, Nat.reduceMul, Nat.reduceLeDiff, Nat.reduceLT, Nat.reduceBEq, reduceCtorEq]); exact rfl
    case hr2 => simp [rosA, roA]
    case hs2 => simp [argsLe, aLe, csLe, cLe]
    case hb2 => (try simp only [pkS, TyB, scM, implies_true, forall_const, Nat.reduceSub, Nat.reduceEqDiff, Nat.reduceAdd, Nat.reduceMul, Nat.reduceLeDiff, Nat.reduceLT, Nat.reduceBEq, reduceCtorEq]); repeat' (first | rfl | trivial | omega | with_reducible refine And.intro ?_ ?_)
    show aops _ _ _ _ _ _ _ _
    repeat' (first | (with_reducible first | refine zaa _ _ ?_ | refine zaf ?_ | refine zah ?_) | rw [zai] | simp only [pkS, TyB, z1, z2, z3, zaJ, pkY, Int.reduceEq, bne_self_eq_false, Int.reduceBEq, Int.reduceBNe, implies_true, forall_const, Nat.reduceSub, Nat.reduceEqDiff, Nat.reduceAdd, Nat.reduceMul, Nat.reduceLeDiff, Nat.reduceLT, Nat.reduceBEq, reduceCtorEq] | ((first | ((try refine zal ?_); apply zao) | (apply zam; intro _)); (solve | exact (hou) | exact (hh2) | exact (hsg) | exact (hb3) | (refine CallOK.le (hou) ?_; simp [argsLe, aLe, csLe, cLe]) | (refine CallOK.le (hh2) ?_; simp [argsLe, aLe, csLe, cLe]) | (refine CallOK.le (hsg) ?_; simp [argsLe, aLe, csLe, cLe]) | (refine CallOK.le (hb3) ?_; simp [argsLe, aLe, csLe, cLe])); try case hn => rfl) | refine zab ?_ | refine zad (fun hb => ?_) (fun hb => ?_) | (refine And.intro ?_ ?_; focus ((try with_reducible refine zaj ?_); first | (with_reducible rfl) | ((with_reducible first | refine zak ?_ | refine zae ?_ | refine zac ?_); kernel_rfl) | (intros; omega) | (intro q p; rw [q, p]; rfl) | (intro q; rw [q]; rfl) | (intro q; simp only [Bool.and_eq_true, decide_eq_true_eq, beq_iff_eq] at q; omega) | (intros; simp [List.range, List.range.loop]; done) | (intros; simp_all [List.range, List.range.loop]; done))) | refine And.intro (fun hg => ?_) (fun hg => ?_) | (with_reducible refine zac ?_; kernel_rfl) | fail)
    refine zaM (mv := ?mv3) (lent := ?le3) (x := ?x3) (ass := ?ass3) ?ha3 (ht3) ?hr3 rfl ?hs3 ?hb3 ?hc3
    case ha3 => (try simp only [pkS, TyB, pkY, Int.reduceEq, bne_self_eq_false, Int.reduceBEq, Int.reduceBNe, implies_true, forall_const, Nat.reduceSub, Nat.reduceEqDiff, Nat.reduceAdd, Nat.reduceMul, Nat.reduceLeDiff, Nat.reduceLT, Nat.reduceBEq, reduceCtorEq]); exact rfl
    case hr3 => simp [rosA, roA]
    case hs3 => simp [argsLe, aLe, csLe, cLe]
    case hb3 => (try simp only [pkS, TyB, scM, implies_true, forall_const, Nat.reduceSub, Nat.reduceEqDiff, Nat.reduceAdd, Nat.reduceMul, Nat.reduceLeDiff, Nat.reduceLT, Nat.reduceBEq, reduceCtorEq]); repeat' (first | rfl | trivial | omega | with_reducible refine And.intro ?_ ?_)
    show aops _ _ _ _ _ _ _ _
    repeat' (first | (with_reducible first | refine zaa _ _ ?_ | refine zaf ?_ | refine zah ?_) | rw [zai] | simp only [pkS, TyB, z4, zaJ, pkY, Int.reduceEq, bne_self_eq_false, Int.reduceBEq, Int.reduceBNe, implies_true, forall_const, Nat.reduceSub, Nat.reduceEqDiff, Nat.reduceAdd, Nat.reduceMul, Nat.reduceLeDiff, Nat.reduceLT, Nat.reduceBEq, reduceCtorEq] | ((first | ((try refine zal ?_); apply zao) | (apply zam; intro _)); (solve | exact (hh3) | exact (hsg) | exact (has) | exact (zep) | (refine CallOK.le (hh3) ?_; simp [argsLe, aLe, csLe, cLe]) | (refine CallOK.le (hsg) ?_; simp [argsLe, aLe, csLe, cLe]) | (refine CallOK.le (has) ?_; simp [argsLe, aLe, csLe, cLe]) | (refine CallOK.le (zep) ?_; simp [argsLe, aLe, csLe, cLe])); try case hn => rfl) | refine zab ?_ | refine zad (fun hb => ?_) (fun hb => ?_) | (refine And.intro ?_ ?_; focus ((try with_reducible refine zaj ?_); first | (with_reducible rfl) | ((with_reducible first | refine zak ?_ | refine zae ?_ | refine zac ?_); kernel_rfl) | (intros; omega) | (intro q p; rw [q, p]; rfl) | (intro q; rw [q]; rfl) | (intro q; simp only [Bool.and_eq_true, decide_eq_true_eq, beq_iff_eq] at q; omega) | (intros; simp [List.range, List.range.loop]; done) | (intros; simp_all [List.range, List.range.loop]; done))) | refine And.intro (fun hg => ?_) (fun hg => ?_) | (with_reducible refine zac ?_; kernel_rfl) | fail)
  ·have hak := zhA K0 6 ⟨#[]⟩ (by decide) (by rw [f2]; simp)
   rw [zg6 (show askOk 6 ⟨#[]⟩ = true from by simp [askOk, emptyB]) (by rw [f2]; simp), f2] at hak
   obtain ⟨K1, hK1⟩ : ∃ K, K = ({ K0 with asks := [⟨6, 0, ⟨#[]⟩⟩] } : Cl) := ⟨_, rfl⟩
   rw [List.nil_append, ← hK1] at hak
   have hq2 : heldQ K1 1 = [] := by
    have e1 : K1.till = 49 := by rw [hK1]; exact f4
    have e2 : K1.asks = [⟨6, 0, ⟨#[]⟩⟩] := by rw [hK1]
    unfold heldQ
    rw [e1, if_neg (by decide), e2, heldP]
    exact List.filter_eq_nil_iff.2 fun _ _ => by simp [letsQ]
   have hh2 := zeX K1 1 (by decide) (by rw [hK1]; simp) (by rw [hK1]; simp only; rw [f3]; omega)
   rw [hq2] at hh2
   have z0 : ((0 : Int) == 0) = true := rfl
   have z1 : ((([] : List Grant).length : Int) == 0) = true := rfl
   repeat' (first | (with_reducible first | refine zaa _ _ ?_ | refine zaf ?_ | refine zah ?_) | rw [zai] | simp only [pkS, TyB, zaJ, g4, w1, w2, hd, pkY, Int.reduceEq, bne_self_eq_false, Int.reduceBEq, Int.reduceBNe, implies_true, forall_const, Nat.reduceSub, Nat.reduceEqDiff, Nat.reduceAdd, Nat.reduceMul, Nat.reduceLeDiff, Nat.reduceLT, Nat.reduceBEq, reduceCtorEq] | ((first | ((try refine zal ?_); apply zao) | (apply zam; intro _)); (solve | exact (hh1) | exact (hsg) | exact (hse) | (refine CallOK.le (hh1) ?_; simp [argsLe, aLe, csLe, cLe]) | (refine CallOK.le (hsg) ?_; simp [argsLe, aLe, csLe, cLe]) | (refine CallOK.le (hse) ?_; simp [argsLe, aLe, csLe, cLe])); try case hn => rfl) | refine zbS (hop) ?_ | (refine zbS (CallP.le (hop) ?_) ?_; focus (simp [argsLe, aLe, csLe, cLe] <;> fail)) | refine zab ?_ | refine zad (fun hb => ?_) (fun hb => ?_) | (refine And.intro ?_ ?_; focus ((try with_reducible refine zaj ?_); first | (with_reducible rfl) | ((with_reducible first | refine zak ?_ | refine zae ?_ | refine zac ?_); kernel_rfl) | (intros; omega) | (intro q p; rw [q, p]; rfl) | (intro q; rw [q]; rfl) | (intro q; simp only [Bool.and_eq_true, decide_eq_true_eq, beq_iff_eq] at q; omega) | (intros; simp [List.range, List.range.loop]; done) | (intros; simp_all [List.range, List.range.loop]; done))) | refine And.intro (fun hg => ?_) (fun hg => ?_) | (with_reducible refine zac ?_; kernel_rfl) | fail)
   refine zaM (mv := ?mv4) (lent := ?le4) (x := ?x4) (ass := ?ass4) ?ha4 (hak) ?hr4 rfl ?hs4 ?hb4 ?hc4
   case ha4 => (try simp only [pkS, TyB, pkY, Int.reduceEq, bne_self_eq_false, Int.reduceBEq, Int.reduceBNe, implies_true, forall_const, Nat.reduceSub, Nat.reduceEqDiff, Nat.reduceAdd, Nat.reduceMul, Nat.reduceLeDiff, Nat.reduceLT, Nat.reduceBEq, reduceCtorEq]); exact rfl
   case hr4 => simp [rosA, roA]
   case hs4 => simp [argsLe, aLe, csLe, cLe]
   case hb4 => (try simp only [pkS, TyB, scM, implies_true, forall_const, Nat.reduceSub, Nat.reduceEqDiff, Nat.reduceAdd, Nat.reduceMul, Nat.reduceLeDiff, Nat.reduceLT, Nat.reduceBEq, reduceCtorEq]); repeat' (first | rfl | trivial | omega | with_reducible refine And.intro ?_ ?_)
   show aops _ _ _ _ _ _ _ _
   repeat' (first | (with_reducible first | refine zaa _ _ ?_ | refine zaf ?_ | refine zah ?_) | rw [zai] | simp only [pkS, TyB, zaJ, z0, z1, pkY, Int.reduceEq, bne_self_eq_false, Int.reduceBEq, Int.reduceBNe, implies_true, forall_const, Nat.reduceSub, Nat.reduceEqDiff, Nat.reduceAdd, Nat.reduceMul, Nat.reduceLeDiff, Nat.reduceLT, Nat.reduceBEq, reduceCtorEq] | ((first | ((try refine zal ?_); apply zao) | (apply zam; intro _)); (solve | exact (hh2) | exact (zep) | (refine CallOK.le (hh2) ?_; simp [argsLe, aLe, csLe, cLe]) | (refine CallOK.le (zep) ?_; simp [argsLe, aLe, csLe, cLe])); try case hn => rfl) | refine zab ?_ | refine zad (fun hb => ?_) (fun hb => ?_) | (refine And.intro ?_ ?_; focus ((try with_reducible refine zaj ?_); first | (with_reducible rfl) | ((with_reducible first | refine zak ?_ | refine zae ?_ | refine zac ?_); kernel_rfl) | (intros; omega) | (intro q p; rw [q, p]; rfl) | (intro q; rw [q]; rfl) | (intro q; simp only [Bool.and_eq_true, decide_eq_true_eq, beq_iff_eq] at q; omega) | (intros; simp [List.range, List.range.loop]; done) | (intros; simp_all [List.range, List.range.loop]; done))) | refine And.intro (fun hg => ?_) (fun hg => ?_) | (with_reducible refine zac ?_; kernel_rfl) | fail)
   rfl
end Go.Proofs.YtiegkabcgokhkaaGreat
