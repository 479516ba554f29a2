import Derived.Test.YtniafckaafcpbaaFA
namespace Go.Proofs.Ytniafckaafcpbaa
open Go.Pk
set_option linter.unusedSimpArgs false
set_option linter.unusedVariables false
theorem numOf_none {l : List Sess} {c : Int} (h : numOf l c = none) : findS l c = none := by unfold numOf at h; simpa using h
theorem zdU {l : List Sess} {c n : Int} (h : numOf l c = some n) : ∃ x, findS l c = some x ∧ x.num = n := by
  unfold numOf at h
  obtain ⟨x, hx, rfl⟩ := Option.map_eq_some_iff.1 h
  exact ⟨x, hx, rfl⟩
theorem mayP_open : mayP 1 0 .empty = true := by unfold mayP; simp
theorem zg5 {k n : Int} {L : ByteArray} (hk : k = 3 ∨ k = 5) (hn : 1 ≤ n ∧ n ≤ High) (hL : nameP L = true) : mayP k n L = true := by
  have hH : High = 2305843009213693952 := rfl
  unfold mayP
  rcases hk with rfl | rfl <;> simp [hL] <;> omega
theorem mayP_close {n : Int} (hn : 1 ≤ n ∧ n ≤ High) : mayP 6 n .empty = true := by
  have hH : High = 2305843009213693952 := rfl
  unfold mayP
  simp
  omega
theorem answer_new {c q n : Int} (hc : isClient c = true) (hq : 1 ≤ q ∧ q ≤ High) (hn : 0 ≤ n ∧ n ≤ High) : answerB ⟨c, q, ⟨0, n, 0, []⟩⟩ = true := by
  have hc := zaT.1 hc
  unfold answerB replyB checkP
  simp
  omega
theorem fair_open {s : St} {L : ByteArray} {came : List Int} {c : Int} (h : FairS s L came 0) (hn : c ∉ came) (hc : isClient c = true) (h4 : came.length < 4) :
    ∃ s1 : St, applyP s ⟨c, 1, 1, 0, .empty⟩ = (s1, ⟨0, (came.length : Int) + 1, 0, []⟩, true) ∧ RightS s1 ∧ s1.num = (came.length : Int) + 1 ∧ s1.token = s.token ∧ s1.locks = s.locks ∧
      (∀ c', numOf s1.sess c' = if c' = c then some ((came.length : Int) + 1) else numOf s.sess c') ∧ s1.sess.length ≤ came.length + 1 ∧ (∀ c', seqOf s1.memos c' = if c' = c then some 1 else seqOf s.memos c') := by
  have hH : High = 2305843009213693952 := rfl
  have hr := h.rt
  have hnum := h.num
  have hm : Req.may ⟨c, 1, 1, 0, .empty⟩ = true := zif hc (by omega) mayP_open
  have hf := numOf_none (h.sn c hn)
  have hfr : freshP s.memos c 1 = 1 := zhy (h.mn c hn)
  have hsl := h.sl
  have hop : openP s.sess c (s.num + 1) s.time = (s.sess.take (posS s.sess c) ++ ⟨c, s.num + 1, s.time⟩ :: s.sess.drop (posS s.sess c), 0) := by
    rw [zh6 hr hc (by omega) hf, if_neg (by omega)]
  have hhe : heldP s.locks c = [] := by
    rw [h.lk]
    refine zg8 fun e => hn ?_
    rw [List.drop_zero] at e
    cases came with
    | nil => cases e
    | cons x r => simp only [List.head?_cons, Option.some.injEq] at e; subst e; exact List.mem_cons_self ..
  have hd : doneP s ⟨c, 1, 1, 0, .empty⟩ = ({ s with sess := s.sess.take (posS s.sess c) ++ ⟨c, s.num + 1, s.time⟩ :: s.sess.drop (posS s.sess c), num := s.num + 1 }, ⟨0, s.num + 1, 0, []⟩) := by
    have e : doneP s ⟨c, 1, 1, 0, .empty⟩ = openedP s c := by unfold doneP; exact if_pos rfl
    rw [e]
    unfold openedP
    simp only [hf, hop, hhe]
    rfl
  have ha := zeT hm hfr
  rw [hd] at ha
  have hra := (zcl hr ⟨c, 1, 1, 0, .empty⟩ (by omega) (by have := h.tok; split at this <;> omega)).rt
  have han := answer_new (n := s.num + 1) hc (q := 1) (by omega) (by omega)
  refine ⟨_, ha.trans (Prod.ext rfl (by simp only [hnum])), by rw [ha] at hra; exact hra, by simp only; omega, rfl, rfl, fun c' => ?_, ?_, fun c' => ?_⟩
  · simp only
    rw [numOf_ins hf, hnum]
  · simp only
    have := zeN (l := s.sess) (k := posS s.sess c) zbt ⟨c, s.num + 1, s.time⟩
    omega
  · simp only
    exact zdV hr.ms han hfr c'
def tokenP (r : Reply) (L : ByteArray) : Int := ((r.held.find? fun g => g.name.toList == L.toList).map Grant.token).getD 0
theorem zic (L : ByteArray) (a b : Int) (r : List Int) : isL L ⟨L, a, b, r⟩ = true := by unfold isL; simp
theorem zg6 (L : ByteArray) (a b : Int) (r : List Int) : findL [⟨L, a, b, r⟩] L = some ⟨L, a, b, r⟩ := by
  unfold findL
  rw [List.find?_cons, zic]
theorem zid (L : ByteArray) (a b : Int) (r : List Int) : posL [⟨L, a, b, r⟩] L = 0 := by
  unfold posL
  rw [zce]
  simp only [bLess]
  rw [zh8]; simp
theorem fair_take {s s1 : St} {L : ByteArray} {came : List Int} {c : Int} (h : FairS s L came 0) (hn : c ∉ came) (hc : isClient c = true) (h4 : came.length < 4) (hr : RightS s1) (h1 : s1.num = (came.length : Int) + 1) (h2 : s1.token = s.token) (h3 : s1.locks = s.locks)
    (h5 : ∀ c', numOf s1.sess c' = if c' = c then some ((came.length : Int) + 1) else numOf s.sess c') (h6 : s1.sess.length ≤ came.length + 1) (h7 : ∀ c', seqOf s1.memos c' = if c' = c then some 1 else seqOf s.memos c') :
    ∃ (s2 : St) (a : Reply), applyP s1 ⟨c, 2, 3, (came.length : Int) + 1, L⟩ = (s2, a, true) ∧ (came.length = 0 → a.code = 0 ∧ tokenP a L = 1) ∧ (0 < came.length → a.code = 10 ∧ a.ahead = (came.length : Int) - 1) ∧ FairS s2 L (came ++ [c]) 0 ∧ replyOk a := by
  have hH : High = 2305843009213693952 := rfl
  have hm : Req.may ⟨c, 2, 3, (came.length : Int) + 1, L⟩ = true := zif hc (by omega) (zg5 (.inl rfl) (by omega) h.nm)
  have hsq := h7 c
  rw [if_pos rfl] at hsq
  have hfr : freshP s1.memos c 2 = 1 := zeS hsq (by omega)
  have hnc := h5 c
  rw [if_pos rfl] at hnc
  obtain ⟨x, hx, hxn⟩ := zdU hnc
  have htk := h.tok
  have hsess : ∀ c', numOf (renewP s1.sess c s1.time).1 c' = numOf s1.sess c' := fun c' => by
    rw [zbD hr hx]
    obtain ⟨⟨hi, he⟩, _⟩ := zdC hr.ss hx
    exact zg7 (zdQ hi (by rw [he])) c'
  have hslen : (renewP s1.sess c s1.time).1.length = s1.sess.length := by rw [zbD hr hx]; simp
  have hT4 : s1.token + 4 ≤ High := by rw [h2]; split at htk <;> omega
  have hN1 : s1.num + 1 ≤ High := by omega
  have hdn := zcR hr hm hN1 hT4
  have hrep := zbA hr hm hN1 hT4
  have hra := zcl hr ⟨c, 2, 3, (came.length : Int) + 1, L⟩ hN1 hT4
  have ha := zeT hm hfr
  -- what is done
  have key : ∃ locks' t' code ahead, doneP s1 ⟨c, 2, 3, (came.length : Int) + 1, L⟩ = (⟨s1.time, s1.num, t', (renewP s1.sess c s1.time).1, locks', s1.memos⟩, ⟨code, (came.length : Int) + 1, ahead, heldP locks' c⟩) ∧
      locks' = lockOf L 1 (came ++ [c]) ∧ t' = 1 ∧ (came.length = 0 → code = 0) ∧ (0 < came.length → code = 10 ∧ ahead = (came.length : Int) - 1) := by
    have hdu := zdu (s := s1) (r := ⟨c, 2, 3, (came.length : Int) + 1, L⟩) rfl hx (by rw [hxn]; simp)
    simp only [show ((3 : Int) == 3 || (3 : Int) == 4) = true from rfl, if_true] at hdu
    rw [hdu]
    cases came with
    | nil =>
      have hl : s1.locks = [] := by rw [h3, h.lk]; rfl
      have ht : s1.token = 0 := by rw [h2, htk]; rfl
      have htp : takeP s1.locks L c s1.token ((3 : Int) == 3) = ([⟨L, c, 1, []⟩], 0, 0) := by rw [hl, ht]; rfl
      simp only [htp]
      exact ⟨[⟨L, c, 1, []⟩], _, 0, _, by rw [hxn]; rfl, rfl, by rw [ht]; rfl, fun _ => rfl, fun h => absurd h (by simp)⟩
    | cons c1 r =>
      have ht : s1.token = 1 := by rw [h2, htk]; simp
      have hl : s1.locks = [⟨L, c1, 1, r⟩] := by rw [h3, h.lk, ← h2, ht]; rfl
      have hne : (c1 == c) = false := by
        have : c1 ≠ c := fun e => hn (e ▸ List.mem_cons_self ..)
        simpa using this
      have hin : hasI r c = false := zba.2 fun hx => hn (List.mem_cons_of_mem _ hx)
      simp only [List.length_cons] at h4
      have hj : joinP r c = (r ++ [c], (r.length : Int), 0) := by
        unfold joinP
        rw [if_neg (by rw [hc]; simp), if_neg (by rw [hin]; simp), if_neg (by simp; omega)]
      have htp : takeP s1.locks L c s1.token ((3 : Int) == 3) = ([⟨L, c1, 1, r ++ [c]⟩], (r.length : Int), 10) := by
        rw [hl, ht]
        unfold takeP
        simp only [zg6]
        rw [if_neg (by rw [hne]; simp), if_neg (by decide), if_neg (by rw [hin]; simp)]
        simp only [hj, zid]
        rfl
      simp only [htp]
      exact ⟨[⟨L, c1, 1, r ++ [c]⟩], _, 10, (r.length : Int), by rw [hxn]; rfl, rfl, ht, fun h => absurd h (by simp), fun _ => ⟨rfl, by simp⟩⟩
  obtain ⟨locks', t', code, ahead, hd, hlk, rfl, k1, k2⟩ := key
  have han := zeD hr hm hN1 hT4
  rw [hd] at ha hrep hdn han
  rw [ha] at hra
  have hkp := zdV hr.ms han hfr
  refine ⟨_, _, ha, fun h0 => ⟨k1 h0, ?_⟩, fun h0 => k2 h0, ⟨hra.rt, h.nm, ?_, ?_, ?_, ?_, ?_, ?_, ?_, ?_, ?_, ?_, ?_⟩, hrep⟩
  · have : came = [] := List.eq_nil_of_length_eq_zero h0
    subst this
    rw [hlk]
    unfold tokenP heldP lockOf
    simp
  · rw [List.nodup_append]
    exact ⟨h.nd, by simp, fun a ham b hbm => by rw [List.mem_singleton] at hbm; exact fun e => hn (by rw [← hbm, ← e]; exact ham)⟩
  · intro x hx
    rcases List.mem_append.1 hx with hx | hx
    · exact h.cl x hx
    · rw [List.mem_singleton] at hx; subst hx; exact hc
  · rw [List.length_append, List.length_singleton]; omega
  · simp only [List.length_append, List.length_singleton]; omega
  · simp only [List.append_eq_nil_iff, List.cons_ne_nil, and_false, if_false, Nat.zero_min]
    rfl
  · exact hlk
  · intro k hk _
    rw [List.length_append, List.length_singleton] at hk
    simp only
    rw [hsess, h5]
    by_cases hkc : k < came.length
    · rw [List.getElem_append_left hkc, if_neg (fun e : came[k] = c => hn (e ▸ List.getElem_mem hkc))]
      exact h.se k hkc (Nat.zero_le _)
    · have : k = came.length := by omega
      subst this
      rw [List.getElem_append_right (Nat.le_refl _)]
      simp
  · intro c' hc'
    rw [List.mem_append, not_or, List.mem_singleton] at hc'
    simp only
    rw [hsess, h5, if_neg hc'.2]
    exact h.sn c' hc'.1
  · simp only [List.length_append, List.length_singleton]
    rw [hslen]; exact h6
  · intro c' hc'
    simp only
    rw [hkp]
    rw [List.drop_zero, List.mem_append, List.mem_singleton] at hc'
    by_cases e : c' = c
    · rw [if_pos e]
    · rw [if_neg e, h7, if_neg e]
      exact h.me c' (by rw [List.drop_zero]; exact hc'.resolve_right e)
  · intro c' hc'
    rw [List.mem_append, not_or, List.mem_singleton] at hc'
    simp only
    rw [hkp, if_neg hc'.2, h7, if_neg hc'.2]
    exact h.mn c' hc'.1
end Go.Proofs.Ytniafckaafcpbaa
