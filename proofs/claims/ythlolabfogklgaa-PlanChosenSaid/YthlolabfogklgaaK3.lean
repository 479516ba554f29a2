/- The layer under the proof, part 3. No condition. -/
import Derived.Test.YthlolabfogklgaaK2
set_option linter.unusedVariables false
set_option linter.unusedSimpArgs false
set_option linter.unusedSectionVars false
/- A slice that is made of its elements; all operations together. -/
namespace Go.Pk
set_option linter.unusedSimpArgs false

section
variable {cx : Cx} {v : List AV} {r : Rs} {a : Act} {w : World} {β : Nat → Nat → Pl} {T : Nat → Option TI} {c : Bool}

theorem seal1_nxt {r r' : Rs} {x : C} {d : D} (hs : sealC r x = some (d, r')) (s : Nat) : nxt r' s = nxt r s := by
  unfold sealC at hs
  split at hs
  · cases hs; rfl
  · split at hs
    · rename_i res rs g1 g2
      split at hs
      · cases hs
      · split at hs
        · cases hs
          rw [nxt_setR]
          split
          · rename_i e; subst e; unfold nxt; simp only [g2]
          · rfl
        · cases hs
    · cases hs
  · cases hs

theorem seals_nxt : ∀ {xs : List C} {ds : List D} {r r' : Rs}, sealCs r xs = some (ds, r') → ∀ s, nxt r' s = nxt r s
  | [], ds, r, r', hs, s => by
    simp only [sealCs, Option.some.injEq, Prod.mk.injEq] at hs
    obtain ⟨_, rfl⟩ := hs
    rfl
  | x :: xs, ds, r, r', hs, s => by
    simp only [sealCs] at hs
    split at hs
    · rename_i d r1 g1
      split at hs
      · rename_i ds' r2 g2
        simp only [Option.some.injEq, Prod.mk.injEq] at hs
        obtain ⟨_, rfl⟩ := hs
        rw [seals_nxt g2 s, seal1_nxt g1 s]
      · cases hs
    · cases hs

theorem fill_range {size : Nat} : ∀ (us : List Value) (i : Nat) (arr : Array Value) (pre rest : List Value), arr.toList = pre ++ rest → pre.length = i * size → rest.length = us.length * size →
    (∀ u ∈ us, u.cells.size = size) → ∃ arr', Instr.fill (fun i => some (i * size, size)) arr ((List.range' i us.length).zip us) = some arr' ∧ arr'.toList = pre ++ us.flatMap (·.cells.toList)
  | [], i, arr, pre, rest, h1, _, h3, _ => ⟨arr, by simp [Instr.fill], by
      have : rest = [] := List.eq_nil_of_length_eq_zero (by simpa using h3)
      simp [h1, this]⟩
  | u :: us, i, arr, pre, rest, h1, h2, h3, h4 => by
    have hu := h4 u (by simp)
    simp only [List.length_cons, Nat.add_mul, Nat.one_mul] at h3
    have hsz : arr.size = i * size + (us.length * size + size) := by rw [← Array.length_toList, h1, List.length_append, h2, h3]
    have hsplit : rest = rest.take size ++ rest.drop size := (List.take_append_drop _ _).symm
    have harr : (u.cells.zipIdx.foldl (fun (x : Array Value) (y : Value × Nat) => x.setIfInBounds (i * size + y.2) y.1) arr).toList = (pre ++ u.cells.toList) ++ rest.drop size := by
      rw [fill_step, h1, hsplit, ← List.append_assoc]
      have e1 : ∀ (xs p old q : List Value) (k : Nat), p.length = k → old.length = xs.length → fillAt k xs (p ++ old ++ q) = p ++ xs ++ q := by
        intro xs
        induction xs with
        | nil =>
          intro p old q k _ ho
          have : old = [] := List.eq_nil_of_length_eq_zero (by simpa using ho)
          simp [fillAt, this]
        | cons x xs ih =>
          intro p old q k hp ho
          cases old with
          | nil => simp at ho
          | cons y old =>
            simp only [fillAt]
            have : (p ++ y :: old ++ q).set k x = (p ++ [x]) ++ old ++ q := by
              rw [List.append_assoc, List.set_append_right _ _ (by omega), hp, Nat.sub_self]
              simp
            rw [this, ih (p ++ [x]) old q (k + 1) (by simp [hp]) (by simpa using ho)]
            simp
      rw [e1 _ _ _ _ _ h2 (by rw [List.length_take, h3]; simp [hu]), List.drop_left' (by rw [List.length_take, h3]; omega)]
    obtain ⟨arr', f1, f2⟩ := fill_range us (i + 1) (u.cells.zipIdx.foldl (fun (x : Array Value) (y : Value × Nat) => x.setIfInBounds (i * size + y.2) y.1) arr) (pre ++ u.cells.toList) (rest.drop size) harr
      (by simp [h2, hu, Nat.add_mul]) (by rw [List.length_drop, h3]; omega) (fun u' hu' => h4 u' (by simp [hu']))
    refine ⟨arr', ?_, by rw [f2]; simp⟩
    simp only [List.length_cons, List.range'_succ, List.zip_cons_cons, Instr.fill]
    rw [if_neg (by simp [hu]; omega)]
    exact f1

theorem reAs_flat : ∀ {ys : List AV} {us : List Value} {size : Nat}, ReAs cx w r β ys us → (∀ y ∈ ys, (cellsOf y).length = size) → size ≠ 0 →
    ReCs cx w r β (ys.flatMap cellsOf) (us.flatMap (·.cells.toList)) ∧ (∀ u ∈ us, u.cells.size = size) ∧ us.length = ys.length
  | [], us, _, h, _, _ => by
    simp only [ReAs] at h
    subst h
    simp [ReCs]
  | y :: ys, us, size, h, hl, hs => by
    simp only [ReAs] at h
    obtain ⟨u, us', rfl, h1, h2⟩ := h
    have hy := hl y (by simp)
    have hcs := reCs_cellsOf h1 (fun he => by rw [he] at hy; exact hs hy.symm)
    have hlen := reCs_len hcs
    obtain ⟨g1, g2, g3⟩ := reAs_flat h2 (fun y' hy' => hl y' (by simp [hy'])) hs
    refine ⟨by simp only [List.flatMap_cons]; exact reCs_append hcs g1, fun u' hu' => ?_, by simp [g3]⟩
    rcases List.mem_cons.1 hu' with rfl | hu'
    · rw [← hy, ← hlen]; simp
    · exact g2 u' hu'

variable (hT : TOK cx.P T) (h : Holds cx ⟨v, r⟩ a w β) (hc : c = true) {o : Oper}
include h hc

include hT in
theorem do_buildSlice {t : TypeId} {n : Nat} {ps : Array (Nat × Operand)} (ho : o.op = .buildSlice t n ps) (hs : (aop T c v r o.dst o.op).sc) :
    Does cx v a w (execOp a.eval o) (aop T c v r o.dst o.op).x (aop T c v r o.dst o.op).r := by
  simp only [ho, aop] at hs ⊢
  split at hs
  · rename_i e ei d h1 h2
    try simp only [h1, h2]
    split at hs
    · rename_i ds r' h3
      simp only [h3]
      obtain ⟨s1, s2, s3, s4, s5⟩ := hs
      have e1 := evs_ok h hc s1
      obtain ⟨g1, g2, hty, _⟩ := elemSz_ok hT h1 w
      obtain ⟨z, g3, g4⟩ := hty.run_zero w
      obtain ⟨q1, q2⟩ := h.drop (d := d) (L := []) (fun j res hj => by simp at hj) (nxt r d) (Nat.le_refl _)
      obtain ⟨f1, f2, f3⟩ := reAs_flat e1 s5 s3
      obtain ⟨β1, k1, k2, k3, k4⟩ := seals_ok q1 h3 (f1.ext q2)
      have hlenv : ∀ l : List Operand, (evs v l).length = l.length := fun l => by induction l <;> simp_all [evs]
      have hn : ((ps.toList.map (·.2)).map a.eval).length = n := by
        have : (ps.toList.map (·.1)).length = n := by rw [s2]; simp
        simpa using this
      have hflen : (((ps.toList.map (·.2)).map a.eval).flatMap (·.cells.toList)).length = n * ei.size := by
        have : ∀ us : List Value, (∀ u ∈ us, u.cells.size = ei.size) → (us.flatMap (·.cells.toList)).length = us.length * ei.size := by
          intro us
          induction us with
          | nil => simp
          | cons u us ih =>
            intro hu
            simp only [List.flatMap_cons, List.length_append, Array.length_toList, hu u (by simp), ih (fun u' hu' => hu u' (by simp [hu'])), List.length_cons, Nat.add_mul, Nat.one_mul]
            omega
        rw [this _ f2, hn]
      have hnx : nxt r' d = nxt r d := by rw [seals_nxt h3 d, nxt_setR, if_pos rfl]
      obtain ⟨arr, m1, m2⟩ := fill_range ((ps.toList.map (·.2)).map a.eval) 0 ((Array.range (n * ei.size)).map fun i => (if n * ei.size = 0 then #[] else z.cells)[i % (if n * ei.size = 0 then #[] else z.cells).size]!) [] _ rfl (by simp)
        (by simp [hn]; rw [← hn]; simp) f2
      rw [hn, ← List.range_eq_range', ← s2] at m1
      simp only [List.nil_append] at m2
      have hparts : (ps.map fun (i, x) => (i, a.eval x)).toList = (ps.toList.map (·.1)).zip ((ps.toList.map (·.2)).map a.eval) := by
        rw [Array.toList_map, List.map_map, List.zip_map', List.map_congr_left]
        intro x _
        rfl
      obtain ⟨β2, t1, t2⟩ := fresh_row k1 hc (d := d) (n := n) (sz := ei.size) (ds := ds) (pl0 := ⟨some (w.heap.size, 0), n⟩) (w' := w.alloc (.cells arr e (0, 0)))
        (fun b o hb => by cases hb; rfl) (fun b hb' => heap_old w _ hb') (by simp) (by rw [k3, hflen]; exact Nat.le_refl _) (Nat.le_refl _) (fun A' hA => by
          have harr : arr = (((ps.toList.map (·.2)).map a.eval).flatMap (·.cells.toList)).toArray := by apply Array.ext'; simpa using m2
          rw [harr]
          exact row_new k3 hflen (fun k d' hk => by
            obtain ⟨u, y1, y2⟩ := k4 k d' hk
            exact ⟨u, y1, y2.stb ⟨fun b hb' _ => heap_old w _ hb', hA⟩⟩))
      rw [hnx] at t1 t2
      refine ⟨_, _, β2, _, ?_, .inl rfl, t1, t2⟩
      have hbig : ¬ (16777216 < n * ei.size) := by omega
      by_cases hz : n * ei.size = 0
      · have hp : List.map (fun x => (x.fst, a.eval x.snd)) ps.toList = (ps.toList.map (·.1)).zip ((ps.toList.map (·.2)).map a.eval) := by
          rw [Array.toList_map] at hparts; exact hparts
        have h0 : (Array.map (fun (_ : Nat) => (default : Value)) (Array.range 0)) = #[] := by apply Array.ext'; simp
        have h0' : (Array.map (fun i => (#[] : Array Value)[i % (#[] : Array Value).size]!) (Array.range 0)) = #[] := by apply Array.ext'; simp
        simp only [hz, if_pos] at m1
        rw [h0'] at m1
        simp [execOp, ho, Instr.buildSlice, g1, g2, hz, newRow]
        rw [hp]
        simp only [h0, m1]
        simp
      · have hp : List.map (fun x => (x.fst, a.eval x.snd)) ps.toList = (ps.toList.map (·.1)).zip ((ps.toList.map (·.2)).map a.eval) := by
          rw [Array.toList_map] at hparts; exact hparts
        simp only [if_neg hz] at m1
        simp [execOp, ho, Instr.buildSlice, g1, g2, g3, hz, hbig, newRow]
        rw [hp]
        simp only [m1]
        simp
    · exact hs.elim
  · exact hs.elim

end
end Go.Pk

