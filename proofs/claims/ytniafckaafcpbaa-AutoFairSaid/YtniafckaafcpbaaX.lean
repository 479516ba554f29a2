import Derived.Test.YtniafckaafcpbaaW
import Derived.Test.YtniafckaafcpbaaS
namespace Go.Proofs.Ytniafckaafcpbaa
open Go.Pk
set_option maxRecDepth 100000
set_option linter.unusedSimpArgs false
set_option linter.unusedVariables false
def byteI (n : Int) : Prop := 0 ≤ n ∧ n < 256
theorem zgH {n : Int} (h : byteI n) : IntKind.i64.wrap n = n := by have := h; unfold byteI at this; exact wrap64 (by omega) (by omega)
theorem zh5 {n : Int} (h : 0 ≤ n) (k : Int) : n.tmod k = n % k := Int.tmod_eq_emod_of_nonneg h
def names4 : List ByteArray := [⟨#[97]⟩, ⟨#[98]⟩, ⟨#[99]⟩, ⟨#[100]⟩, ⟨#[107, 101, 121, 45, 49]⟩, ⟨#[116, 104, 101, 45, 108, 97, 115, 116, 45, 111, 110, 101]⟩]
def namedP (n : Int) : ByteArray := (names4[(n % 6).toNat]?).getD .empty
theorem six (n : Int) : n % 6 = 0 ∨ n % 6 = 1 ∨ n % 6 = 2 ∨ n % 6 = 3 ∨ n % 6 = 4 ∨ n % 6 = 5 := by omega
theorem named4_ok (n : Int) (hn : byteI n) : CallOK Try.prog 10 [.f (au n)] (fun r o => r = [.one (.d (sD (namedP n)))] ∧ o = []) := by
  refine zaq zaG mixed (T := Ty) (n := 9) Try.func10 (c := Try.f10.body.getD .skip) rfl Try.results10 Try.ntmps10 Try.call10 ?_
  simp only [Try.f10, Option.getD]
  have hw := zgH hn
  have ht := zh5 hn.1 6
  unfold namedP
  rcases six n with h | h | h | h | h | h
  all_goals
    rw [h] at ht ⊢
    repeat' (first | (with_reducible first | refine zaa _ _ ?_ | refine zah ?_ | refine zai ?_) | rw [zae] | simp only [pkS, TyB, hw, ht, Int.reduceToNat, List.drop_succ_cons, List.drop_zero, pkY, Int.reduceEq, bne_self_eq_false, Int.reduceBEq, Int.reduceBNe, implies_true, forall_const, Nat.reduceSub, Nat.reduceEqDiff, Nat.reduceAdd, Nat.reduceMul, Nat.reduceLeDiff, Nat.reduceLT, Nat.reduceBEq, reduceCtorEq] | refine zab ?_ | refine zad (fun hb => ?_) (fun hb => ?_) | (refine And.intro ?_ ?_; focus ((try with_reducible refine zal ?_); first | (with_reducible rfl) | ((with_reducible first | refine zam ?_ | refine zaf ?_ | refine zac ?_); kernel_rfl) | (intros; omega) | (intro q p; rw [q, p]; rfl) | (intro q; rw [q]; rfl) | (intro q; simp only [Bool.and_eq_true, decide_eq_true_eq, beq_iff_eq] at q; omega) | (intros; simp_all; done) | (intros; simp [List.range, List.range.loop]; done) | (intros; simp_all [List.range, List.range.loop]; done))) | refine And.intro (fun hg => ?_) (fun hg => ?_) | (with_reducible refine zac ?_; kernel_rfl) | fail)
    rfl
def kindP (a : Int) : Int := 1 + a % 6
def sessP (a b : Int) : Int := if kindP a = 1 then 0 else 1 + b % 7
def cmdNm (a c : Int) : ByteArray := if (kindP a == 3 || kindP a == 4 || kindP a == 5) = true then namedP c else .empty
structure Act where
  time : Int
  client : Int
  seq : Int
  kind : Int
  session : Int
  name : Int
abbrev Act.enc (a : Act) : List D := [uD a.time, uD a.client, uD a.seq, uD a.kind, uD a.session, uD a.name]
abbrev actsE (l : List Act) : List D := l.flatMap Act.enc
def actOk (a : Act) : Prop := byteI a.time ∧ byteI a.client ∧ byteI a.seq ∧ byteI a.kind ∧ byteI a.session ∧ byteI a.name
def reqN (c q k s n : Int) : Req := ⟨c % 8, 1 + q, kindP k, sessP k s, cmdNm k n⟩
def reqA (s : St) (a : Act) : Req :=
  let r := reqN a.client (a.seq % 6) a.kind a.session a.name
  let b1 := (findS s.sess r.client).isSome && decide (a.session % 8 > 0) && (r.kind != 1)
  let b2 := !(findS s.sess r.client).isSome && decide (a.session % 4 > 0)
  ⟨r.client, if decide (a.seq % 5 > 0) = true then (if (findM s.memos r.client).isSome = true then ((findM s.memos r.client).getD noMemo).seq + 1 else 1) else r.seq,
    if b2 = true then 1 else r.kind, if b2 = true then 0 else if b1 = true then ((findS s.sess r.client).getD noSess).num else r.session, if b2 = true then .empty else r.name⟩
end Go.Proofs.Ytniafckaafcpbaa
