import Derived.Test.YtniafckaafcpbaaFB
namespace Go.Proofs.Ytniafckaafcpbaa
open Go.Pk
set_option linter.unusedSimpArgs false
set_option linter.unusedVariables false
theorem zg2 {l : List Sess} {c c' : Int} (h : c' ≠ c) : numOf (l.filter fun x => !hasI [c] x.client) c' = numOf l c' := by
  unfold numOf findS
  rw [List.find?_filter]
  congr 2
  funext x
  cases hx : x.client == c'
  · simp
  · have : x.client = c' := by simpa using hx
    have h2 : hasI [c] x.client = false := by unfold hasI; simp; omega
    simp [h2]
theorem zg3 {L : ByteArray} {t : Int} {came : List Int} {j : Nat} (hj : j < came.length) : lockOf L t (came.drop j) = [⟨L, came[j], t, came.drop (j + 1)⟩] := by
  rw [List.drop_eq_getElem_cons hj]; rfl
theorem zg4 {s : St} {L : ByteArray} {came : List Int} {j : Nat} (h : FairS s L came j) (hj : j < came.length) {r : Req}
    (hr : r = ⟨came[j], 3, 5, (j : Int) + 1, L⟩ ∨ r = ⟨came[j], 3, 6, (j : Int) + 1, .empty⟩) :
    ∃ (s2 : St) (a : Reply), applyP s r = (s2, a, true) ∧ a.code = 0 ∧ a.held = [] ∧ FairS s2 L came (j + 1) ∧ replyOk a := by
  have hH : High = 2305843009213693952 := rfl
  have hrt := h.rt
  have h4 := h.le
  have hcm : came[j] ∈ came := List.getElem_mem hj
  have hc := h.cl _ hcm
  have hrc : r.client = came[j] := by rcases hr with rfl | rfl <;> rfl
  have hrq : r.seq = 3 := by rcases hr with rfl | rfl <;> rfl
  have hm : Req.may r = true := by
    rcases hr with rfl | rfl
    · exact zif hc (by omega) (zg5 (.inr rfl) (by omega) h.nm)
    · exact zif hc (by omega) (mayP_close (by omega))
  have hdj : came.drop j = came[j] :: came.drop (j + 1) := List.drop_eq_getElem_cons hj
  have hsq := h.me came[j] (by rw [hdj]; exact List.mem_cons_self ..)
  have hfr : freshP s.memos r.client r.seq = 1 := by rw [hrc, hrq]; exact zeS hsq (by omega)
  obtain ⟨x, hx, hxn⟩ := zdU (h.se j hj (Nat.le_refl _))
  have hx' : findS s.sess r.client = some x := by rw [hrc]; exact hx
  have htk := h.tok
  have hT4 : s.token + 4 ≤ High := by split at htk <;> omega
  have hN1 : s.num + 1 ≤ High := by rw [h.num]; omega
  have hrep := zbA hrt hm hN1 hT4
  have hra := zcl hrt r hN1 hT4
  have ha := zeT hm hfr
  have han := zeD hrt hm hN1 hT4
  have hnd : came[j] ∉ came.drop (j + 1) := by
    have := h.nd
    rw [← List.take_append_drop j came, hdj] at this
    exact (List.nodup_cons.1 (List.nodup_append.1 this).2.1).1
  have hl : s.locks = [⟨L, came[j], s.token, came.drop (j + 1)⟩] := by rw [h.lk]; exact zg3 hj
  have hne : came ≠ [] := fun e => by rw [e] at hj; cases hj
  rw [if_neg hne] at htk
  have hsess : ∀ c', numOf (renewP s.sess came[j] s.time).1 c' = numOf s.sess c' := fun c' => by
    rw [zbD hrt hx]
    obtain ⟨⟨hi, he⟩, _⟩ := zdC hrt.ss hx
    exact zg7 (zdQ hi (by rw [he])) c'
  have hslen : (renewP s.sess came[j] s.time).1.length = s.sess.length := by rw [zbD hrt hx]; simp
  have htt : s.token + (if came.drop (j + 1) = [] then 0 else 1) = 1 + (min (j + 1) (came.length - 1) : Nat) := by
    rw [htk]
    split
    · rename_i e
      have := congrArg List.length e
      simp only [List.length_drop, List.length_nil] at this
      omega
    · rename_i e
      have : (came.drop (j + 1)).length ≠ 0 := fun e' => e (List.eq_nil_of_length_eq_zero e')
      rw [List.length_drop] at this
      omega
  -- what is done
  have key : ∃ sess' memo2, doneP s r = (⟨s.time, s.num, s.token + (if came.drop (j + 1) = [] then 0 else 1), sess', lockOf L (s.token + 1) (came.drop (j + 1)), s.memos⟩, memo2) ∧ memo2.code = 0 ∧ memo2.held = [] ∧
      (∀ c', c' ≠ came[j] → numOf sess' c' = numOf s.sess c') ∧ sess'.length ≤ s.sess.length := by
    rcases hr with rfl | rfl
    · have hdu := zdu (s := s) (r := ⟨came[j], 3, 5, (j : Int) + 1, L⟩) rfl hx (by rw [hxn]; simp)
      simp only [show ((5 : Int) == 3 || (5 : Int) == 4) = false from rfl, Bool.false_eq_true, if_false, show ((5 : Int) == 5) = true from rfl, if_true] at hdu
      rw [hdu]
      have hfp : freeP s.locks L came[j] s.token = (lockOf L (s.token + 1) (came.drop (j + 1)), (if came.drop (j + 1) = [] then 0 else 1), 0) := by
        rw [hl]
        unfold freeP
        simp only [zg6, zid]
        rw [if_pos (by simp)]
        unfold passP
        cases came.drop (j + 1) with
        | nil => rfl
        | cons c2 r2 => simp [lockOf]
      simp only [hfp]
      refine ⟨_, _, rfl, rfl, ?_, fun c' _ => hsess c', Nat.le_of_eq hslen⟩
      refine zg8 fun e => hnd ?_
      cases hd : came.drop (j + 1) with
      | nil => rw [hd] at e; cases e
      | cons c2 r2 => rw [hd] at e; simp only [List.head?_cons, Option.some.injEq] at e; subst e; exact List.mem_cons_self ..
    · have hdu := zdu (s := s) (r := ⟨came[j], 3, 6, (j : Int) + 1, .empty⟩) rfl hx (by rw [hxn]; simp)
      simp only [show ((6 : Int) == 3 || (6 : Int) == 4) = false from rfl, Bool.false_eq_true, if_false, show ((6 : Int) == 5) = false from rfl, show ((6 : Int) == 6) = true from rfl, if_true] at hdu
      rw [hdu]
      have hwo : withoutP (came.drop (j + 1)) [came[j]] = came.drop (j + 1) := by
        unfold withoutP
        rw [List.filter_eq_self]
        intro y hy
        have : y ≠ came[j] := fun e => hnd (e ▸ hy)
        unfold hasI
        simpa using this
      have hdp : dropP s.locks [came[j]] s.token = (lockOf L (s.token + 1) (came.drop (j + 1)), if came.drop (j + 1) = [] then 0 else 1) := by
        rw [hl]
        unfold dropP lockWithout
        simp only [List.map_cons, List.map_nil, hwo]
        rw [dropR]
        rw [if_pos (by unfold hasI; simp)]
        cases came.drop (j + 1) with
        | nil => rfl
        | cons c2 r2 => simp [lockOf, dropR]
      refine ⟨_, _, by unfold withoutSt; simp only [hdp]; rfl, rfl, rfl, fun c' hc' => ?_, ?_⟩
      · rw [zg2 hc', hsess]
      · rw [← hslen]
        exact List.length_filter_le ..
  obtain ⟨sess', a, hd, ha0, hah, hse, hsl⟩ := key
  rw [hd] at ha hrep han
  rw [ha] at hra
  have hkp := zdV hrt.ms han hfr
  refine ⟨_, _, ha, ha0, hah, ⟨hra.rt, h.nm, h.nd, h.cl, h.le, h.num, ?_, ?_, ?_, ?_, ?_, ?_, ?_⟩, hrep⟩
  · simp only
    rw [htt, if_neg hne]
    omega
  · simp only
    cases hd2 : came.drop (j + 1) with
    | nil => rfl
    | cons c2 r2 => rw [if_neg (by simp)]
  · intro k hk hjk
    simp only
    rw [hse _ (fun e => ?_)]
    · exact h.se k hk (by omega)
    · have hmem : came[k] ∈ came.drop (j + 1) := by
        rw [List.mem_drop_iff_getElem]
        exact ⟨k - (j + 1), by omega, by congr 1; omega⟩
      rw [e] at hmem
      exact hnd hmem
  · intro c' hc'
    simp only
    rw [hse _ (fun e : c' = came[j] => hc' (by rw [e]; exact hcm))]
    exact h.sn c' hc'
  · simp only; have := h.sl; omega
  · intro c' hc'
    simp only
    rw [hkp, if_neg (fun e => ?_)]
    · exact h.me c' (by rw [hdj]; exact List.mem_cons_of_mem _ hc')
    · simp only [hrc] at e
      rw [e] at hc'
      exact hnd hc'
  · intro c' hc'
    simp only
    rw [hkp, if_neg (fun e => ?_)]
    · exact h.mn c' hc'
    · simp only [hrc] at e
      rw [e] at hc'
      exact hc' hcm
end Go.Proofs.Ytniafckaafcpbaa
