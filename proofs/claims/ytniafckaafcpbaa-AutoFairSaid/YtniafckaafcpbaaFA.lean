import Derived.Test.YtniafckaafcpbaaS
namespace Go.Proofs.Ytniafckaafcpbaa
open Go.Pk
set_option linter.unusedSimpArgs false
set_option linter.unusedVariables false
def numOf (l : List Sess) (c : Int) : Option Int := (findS l c).map Sess.num
def seqOf (l : List Memo) (c : Int) : Option Int := (findM l c).map Memo.seq
theorem zg7 {l m : List Sess} (h : l.map (fun x => (x.client, x.num)) = m.map (fun x => (x.client, x.num))) (c : Int) : numOf l c = numOf m c := by
  have key : ∀ l : List Sess, numOf l c = ((l.map fun x => (x.client, x.num)).find? fun p => p.1 == c).map Prod.snd := fun l => by
    unfold numOf findS
    induction l with
    | nil => rfl
    | cons x l ih =>
      rw [List.map_cons, List.find?_cons, List.find?_cons]
      cases x.client == c
      · simpa using ih
      · rfl
  rw [key, key, h]
theorem zie {α : Type} {p : α → Bool} {l : List α} {k : Nat} {x : α} (h : ∀ y ∈ l, p x = true → p y = false) : (l.take k ++ x :: l.drop k).find? p = if p x = true then some x else l.find? p := by
  rw [List.find?_append, List.find?_cons]
  cases hx : p x
  · simp only [Bool.false_eq_true, if_false]
    rw [← List.find?_append, List.take_append_drop]
  · have : (l.take k).find? p = none := List.find?_eq_none.2 fun y hy => by rw [h y (List.mem_of_mem_take hy) hx]; simp
    rw [this]
    simp
theorem numOf_ins {l : List Sess} {c c' n t : Int} (hf : findS l c = none) : numOf (l.take (posS l c) ++ ⟨c, n, t⟩ :: l.drop (posS l c)) c' = if c' = c then some n else numOf l c' := by
  unfold numOf findS
  rw [zie (fun y hy hx => by
    simp only [beq_iff_eq] at hx
    subst hx
    cases hb : y.client == c
    · rfl
    · have : (findS l c).isSome = true := zbB.2 ⟨y, hy, by simpa using hb⟩
      rw [hf] at this; cases this)]
  by_cases h : c' = c
  · subst h; simp
  · rw [if_neg h, if_neg (by simpa using fun e => h e.symm)]
theorem find_set {α : Type} {p : α → Bool} {l : List α} {j : Nat} {x : α} (hj : j < l.length) (h : p x = p l[j]) (hn : p x = true → ∀ y ∈ l.take j, p y = false) : (l.set j x).find? p = if p x = true then some x else l.find? p := by
  rw [List.set_eq_take_append_cons_drop, if_pos hj]
  have e : l = l.take j ++ l[j] :: l.drop (j + 1) := by rw [List.getElem_cons_drop]; simp
  cases hx : p x
  · simp only [Bool.false_eq_true, if_false]
    conv => rhs; rw [e]
    rw [List.find?_append, List.find?_append, List.find?_cons, List.find?_cons, hx, ← h, hx]
  · have : (l.take j).find? p = none := List.find?_eq_none.2 fun y hy => by rw [hn hx y hy]; simp
    rw [List.find?_append, this, List.find?_cons, hx]; rfl
theorem zdV {l : List Memo} (hs : SM l) {a : Memo} (ha : answerB a = true) (hfr : freshP l a.client a.seq = 1) (c : Int) : seqOf (keepP l a) c = if c = a.client then some a.seq else seqOf l c := by
  unfold keepP
  rw [ha, hfr]
  simp only [Bool.not_true, Bool.false_or]
  rw [if_neg (by decide)]
  unfold seqOf
  split
  · rename_i hf
    obtain ⟨x, hx⟩ := Option.isSome_iff_exists.1 hf
    obtain ⟨⟨hi, he⟩, hc⟩ := zdD hs hx
    unfold findM
    rw [find_set hi (by rw [he, hc]) (fun hp y hy => ?_)]
    · by_cases h : c = a.client
      · subst h; simp
      · rw [if_neg h, if_neg (by simpa using fun e => h e.symm)]
    · have hca : a.client = c := by simpa using hp
      have := zdz hy
      simp at this
      simp; omega
  · rename_i hf
    unfold findM
    rw [zie (fun y hy hp => ?_)]
    · by_cases h : c = a.client
      · subst h; simp
      · rw [if_neg h, if_neg (by simpa using fun e => h e.symm)]
    · have hca : a.client = c := by simpa using hp
      have hn : findM l a.client = none := by simpa using hf
      have := List.find?_eq_none.1 hn y hy
      rw [← hca]; simpa using this
theorem zhy {l : List Memo} {c q : Int} (h : seqOf l c = none) : freshP l c q = 1 := by
  unfold seqOf at h
  unfold freshP
  have : findM l c = none := by simpa using h
  rw [this]
theorem zeS {l : List Memo} {c q m : Int} (h : seqOf l c = some m) (hq : m < q) : freshP l c q = 1 := by
  unfold seqOf at h
  unfold freshP
  obtain ⟨x, hx, rfl⟩ := Option.map_eq_some_iff.1 h
  rw [hx]
  simp only
  rw [if_pos hq]
def lockOf (L : ByteArray) (t : Int) : List Int → List Lk
  | [] => []
  | c :: r => [⟨L, c, t, r⟩]
structure FairS (s : St) (L : ByteArray) (came : List Int) (j : Nat) : Prop where
  rt : RightS s
  nm : nameP L = true
  nd : came.Nodup
  cl : ∀ c ∈ came, isClient c = true
  le : came.length ≤ 4
  num : s.num = came.length
  tok : s.token = if came = [] then 0 else 1 + (min j (came.length - 1) : Nat)
  lk : s.locks = lockOf L s.token (came.drop j)
  se : ∀ k (hk : k < came.length), j ≤ k → numOf s.sess came[k] = some ((k : Int) + 1)
  sn : ∀ c, c ∉ came → numOf s.sess c = none
  sl : s.sess.length ≤ came.length
  me : ∀ c ∈ came.drop j, seqOf s.memos c = some 2
  mn : ∀ c, c ∉ came → seqOf s.memos c = none
theorem zeT {s : St} {r : Req} (hm : Req.may r = true) (hf : freshP s.memos r.client r.seq = 1) :
    applyP s r = ({ (doneP s r).1 with memos := keepP (doneP s r).1.memos ⟨r.client, r.seq, (doneP s r).2⟩ }, (doneP s r).2, true) := by
  unfold applyP
  rw [if_neg (by rw [hm]; simp), if_neg (by rw [hf]; decide), if_neg (by rw [hf]; decide)]
theorem zif {c q k n : Int} {L : ByteArray} (hc : isClient c = true) (hq : 1 ≤ q ∧ q ≤ High) (hk : mayP k n L = true) : Req.may ⟨c, q, k, n, L⟩ = true := by
  unfold Req.may
  have := zaT.1 hc
  simp only [hk, Bool.and_true, Bool.and_eq_true, decide_eq_true_eq]
  omega
theorem zg8 {L : ByteArray} {t : Int} {l : List Int} {c : Int} (h : l.head? ≠ some c) : heldP (lockOf L t l) c = [] := by
  cases l with
  | nil => rfl
  | cons x r =>
    unfold heldP lockOf
    have : (x == c) = false := by simpa using h
    rw [List.filter_cons, this]
    rfl
end Go.Proofs.Ytniafckaafcpbaa
