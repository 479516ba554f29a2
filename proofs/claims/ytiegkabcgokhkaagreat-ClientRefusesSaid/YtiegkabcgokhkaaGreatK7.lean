/- The layer under the proof, part 7. No condition. -/
import Derived.Test.YtiegkabcgokhkaaGreatK6
import Derived.Laws.Externs
import Derived.Lib.Bytealg
set_option linter.unusedVariables false
set_option linter.unusedSimpArgs false
set_option linter.unusedSectionVars false
namespace Go.Pk
set_option linter.unusedSimpArgs false
set_option linter.unusedVariables false

def epZ (Z : List Nat) (s e : Nat) : Nat := if Z.contains s = true then e else 1

mutual
def canC (Z : List Nat) : C → C
  | .own h lo n => .own ⟨h.s, h.j, epZ Z h.s h.e⟩ lo n
  | .ptr h off => .ptr ⟨h.s, h.j, epZ Z h.s h.e⟩ off
  | .clos f caps => .clos f (canCs Z caps)
  | .d x => .d x
  | .lent n ds => .lent n ds
  | .elt ds => .elt ds
  | .ab => .ab
  | .dead => .dead
  | .eltR cs => .eltR (canCs Z cs)
  | .gap _ _ _ _ => .dead
def canCs (Z : List Nat) : List C → List C
  | [] => []
  | c :: cs => canC Z c :: canCs Z cs
end

mutual
def canA (Z : List Nat) : AV → AV
  | .one x => .one (canC Z x)
  | .agg l => .agg (canCs Z l)
  | .tup l => .tup (canAs Z l)
  | .gd c x => .gd c (canA Z x)
def canAs (Z : List Nat) : List AV → List AV
  | [] => []
  | c :: cs => canA Z c :: canAs Z cs
end

def canRes (Z : List Nat) (s : Nat) (res : Res) : Res := if res.var = true then { res with e := epZ Z s res.e, cells := canCs Z res.cells } else { res with e := epZ Z s res.e }

def canRS (Z : List Nat) (s : Nat) (rs : RS) : RS := ⟨if Z.contains s = true then rs.next else 2, rs.l.map fun x => x.map (canRes Z s)⟩

def canR (Z : List Nat) : Rs → Rs
  | [] => []
  | (s, rs) :: l => (s, canRS Z s rs) :: canR Z l

def curH (Z : List Nat) (r : Rs) (h : Hd) : Bool :=
  Z.contains h.s || match lookR r h.s h.j with
  | some res => res.e == h.e
  | none => true

mutual
def curC (Z : List Nat) (r : Rs) : C → Bool
  | .own h _ _ => curH Z r h
  | .ptr h _ => curH Z r h
  | .clos _ caps => curCs Z r caps
  | .d _ => true
  | .lent _ _ => true
  | .elt _ => true
  | .ab => true
  | .dead => true
  | .eltR cs => curCs Z r cs
  | .gap _ _ _ _ => true
def curCs (Z : List Nat) (r : Rs) : List C → Bool
  | [] => true
  | c :: cs => curC Z r c && curCs Z r cs
end

mutual
def curA (Z : List Nat) (r : Rs) : AV → Bool
  | .one x => curC Z r x
  | .agg l => curCs Z r l
  | .tup l => curAs Z r l
  | .gd _ x => curA Z r x
def curAs (Z : List Nat) (r : Rs) : List AV → Bool
  | [] => true
  | c :: cs => curA Z r c && curAs Z r cs
end

def curO (Z : List Nat) (r : Rs) : Option Res → Bool
  | some res => !res.var || curCs Z r res.cells
  | none => true

def curL (Z : List Nat) (r : Rs) : List (Option Res) → Bool
  | [] => true
  | x :: l => curO Z r x && curL Z r l

def curR (Z : List Nat) (r : Rs) : Rs → Bool
  | [] => true
  | (s, rs) :: l => curL Z r rs.l && curR Z r l

theorem find_can {Z : List Nat} : ∀ {r : Rs} {s : Nat}, findR s (canR Z r) = (findR s r).map (canRS Z s)
  | [], s => rfl
  | (t, rs) :: l, s => by
    simp only [canR, findR]
    by_cases h : t = s
    · subst h; rw [if_pos rfl, if_pos rfl]; rfl
    · rw [if_neg h, if_neg h, find_can]

theorem look_can {Z : List Nat} {r : Rs} {s j : Nat} : lookR (canR Z r) s j = (lookR r s j).map (canRes Z s) := by
  unfold lookR
  rw [find_can]
  cases findR s r with
  | none => rfl
  | some rs =>
    simp only [Option.map_some, canRS, List.getElem?_map]
    cases rs.l[j]? with
    | none => rfl
    | some x => cases x <;> rfl

theorem nxt_can {Z : List Nat} {r : Rs} {s : Nat} : nxt (canR Z r) s = if Z.contains s = true then nxt r s else (if (findR s r).isSome then 2 else 0) := by
  unfold nxt
  rw [find_can]
  cases findR s r with
  | none => simp
  | some rs => simp [canRS]

theorem canRes_fz {Z : List Nat} {s : Nat} {res : Res} : (canRes Z s res).fz = res.fz := by unfold canRes; split <;> rfl
theorem canRes_var {Z : List Nat} {s : Nat} {res : Res} : (canRes Z s res).var = res.var := by unfold canRes; split <;> rfl
theorem canRes_sz {Z : List Nat} {s : Nat} {res : Res} : (canRes Z s res).sz = res.sz := by unfold canRes; split <;> rfl
theorem canRes_bor {Z : List Nat} {s : Nat} {res : Res} : (canRes Z s res).bor = res.bor := by unfold canRes; split <;> rfl
theorem canRes_e {Z : List Nat} {s : Nat} {res : Res} : (canRes Z s res).e = epZ Z s res.e := by unfold canRes; split <;> rfl
theorem canCs_len {Z : List Nat} : ∀ {l : List C}, (canCs Z l).length = l.length
  | [] => rfl
  | x :: l => by simp only [canCs, List.length_cons, canCs_len]
theorem canRes_len {Z : List Nat} {s : Nat} {res : Res} : (canRes Z s res).cells.length = res.cells.length := by unfold canRes; split <;> simp [canCs_len]

section
variable {cx : Cx} {w : World} {r : Rs} {β : Nat → Nat → Pl} {Z : List Nat}

theorem ob_can {b : Nat} : OB (canR Z r) β b ↔ OB r β b := by
  constructor
  · rintro ⟨s, j, res, o, h1, h2, h3⟩
    rw [look_can] at h1
    cases hl : lookR r s j with
    | none => rw [hl] at h1; cases h1
    | some res0 =>
      rw [hl] at h1
      simp only [Option.map_some, Option.some.injEq] at h1
      subst h1
      exact ⟨s, j, res0, o, hl, by rwa [canRes_fz] at h2, h3⟩
  · rintro ⟨s, j, res, o, h1, h2, h3⟩
    exact ⟨s, j, canRes Z s res, o, by rw [look_can, h1]; rfl, by rw [canRes_fz]; exact h2, h3⟩

theorem av_can : Av cx (canR Z r) β = Av cx r β := by
  funext b
  simp only [Av, ob_can]

theorem get_can {h : Hd} {res' : Res} (hc : curH Z r h = true) (hg : getR (canR Z r) ⟨h.s, h.j, epZ Z h.s h.e⟩ = some res') :
    ∃ res, getR r h = some res ∧ res' = canRes Z h.s res := by
  obtain ⟨h1, h2⟩ := lookR_of_getR hg
  rw [look_can] at h1
  simp only at h1 h2
  cases hl : lookR r h.s h.j with
  | none => rw [hl] at h1; cases h1
  | some res =>
    rw [hl] at h1
    simp only [Option.map_some, Option.some.injEq] at h1
    subst h1
    refine ⟨res, getR_of_lookR hl ?_, rfl⟩
    unfold curH at hc
    rw [canRes_e] at h2
    by_cases hz : Z.contains h.s = true
    · simp only [epZ, if_pos hz] at h2; exact h2
    · rw [hl] at hc
      simp only [hz, Bool.false_or, beq_iff_eq] at hc
      exact hc

theorem lt_can {h : Hd} (hlt : h.e < nxt r h.s) : epZ Z h.s h.e < nxt (canR Z r) h.s := by
  rw [nxt_can]
  unfold epZ
  split
  · exact hlt
  · have : (findR h.s r).isSome = true := by
      unfold nxt at hlt
      cases hf : findR h.s r with
      | none => rw [hf] at hlt; simp at hlt
      | some _ => rfl
    rw [if_pos this]
    decide

theorem own_can {pl : Pl} {s : Nat} {res : Res} {lo n : Nat} {u : Value} (h : OwnV pl res lo n u) : OwnV pl (canRes Z s res) lo n u :=
  h.same canRes_var canRes_sz (Nat.le_of_eq canRes_len.symm)

mutual
theorem reC_can : ∀ {c : C} {u : Value}, curC Z r c = true → ReC cx w r β c u → ReC cx w (canR Z r) β (canC Z c) u
  | .d _, _, _, h => by simp only [canC, ReC, av_can] at h ⊢; exact h
  | .lent n ds, _, _, h => by simp only [canC, ReC, av_can] at h ⊢; exact h
  | .own hd lo n, u, hc, h => by
    simp only [canC, ReC, curC] at h hc ⊢
    obtain ⟨h1, h2, h3⟩ := h
    refine ⟨h1, lt_can h2, fun res' hr => ?_⟩
    obtain ⟨res, g1, rfl⟩ := get_can hc hr
    exact own_can (h3 res g1)
  | .ptr hd off, u, hc, h => by
    simp only [canC, ReC, curC] at h hc ⊢
    obtain ⟨h1, h2, h3⟩ := h
    refine ⟨h1, lt_can h2, fun res' hr => ?_⟩
    obtain ⟨res, g1, rfl⟩ := get_can hc hr
    exact h3 res g1
  | .elt ds, _, _, h => by simp only [canC, ReC, av_can] at h ⊢; exact h
  | .clos f caps, _, hc, h => by
    simp only [canC, ReC, curC] at h hc ⊢
    obtain ⟨us, h1, h2⟩ := h
    exact ⟨us, h1, reCs_can hc h2⟩
  | .ab, _, _, h => by simpa only [canC, ReC] using h
  | .dead, _, _, _ => by simp [canC, ReC]
  | .eltR cs, _, hc, h => by
    simp only [canC, ReC] at h ⊢
    obtain ⟨b, o, us, h1, h2, h3, h4, h5⟩ := h
    exact ⟨b, o, us, h1, h2, by rw [av_can]; exact h3, h4, reCs_can hc h5⟩
  | .gap _ _ _ _, _, _, _ => by simp [canC, ReC]
theorem reCs_can : ∀ {c : List C} {u : List Value}, curCs Z r c = true → ReCs cx w r β c u → ReCs cx w (canR Z r) β (canCs Z c) u
  | [], _, _, h => by simpa [canCs, ReCs] using h
  | c :: cs, _, hc, h => by
    simp only [canCs, ReCs, curCs, Bool.and_eq_true] at h hc ⊢
    obtain ⟨u, us, h1, h2, h3⟩ := h
    exact ⟨u, us, h1, reC_can hc.1 h2, reCs_can hc.2 h3⟩
end

mutual
theorem reA_can : ∀ {c : AV} {u : Value}, curA Z r c = true → ReA cx w r β c u → ReA cx w (canR Z r) β (canA Z c) u
  | .one _, _, hc, h => by simp only [canA, ReA, curA] at h hc ⊢; exact reC_can hc h
  | .agg l, _, hc, h => by
    simp only [canA, ReA, curA] at h hc ⊢
    obtain ⟨us, h1, h2⟩ := h
    exact ⟨us, h1, reCs_can hc h2⟩
  | .tup l, _, hc, h => by
    simp only [canA, ReA, curA] at h hc ⊢
    obtain ⟨us, h1, h2⟩ := h
    exact ⟨us, h1, reAs_can hc h2⟩
  | .gd c y, _, hc, h => by
    simp only [canA, ReA, curA] at h hc ⊢
    exact ⟨fun he => reA_can hc (h.1 he), h.2⟩
theorem reAs_can : ∀ {c : List AV} {u : List Value}, curAs Z r c = true → ReAs cx w r β c u → ReAs cx w (canR Z r) β (canAs Z c) u
  | [], _, _, h => by simpa [canAs, ReAs] using h
  | c :: cs, _, hc, h => by
    simp only [canAs, ReAs, curAs, Bool.and_eq_true] at h hc ⊢
    obtain ⟨u, us, h1, h2, h3⟩ := h
    exact ⟨u, us, h1, reA_can hc.1 h2, reAs_can hc.2 h3⟩
end

theorem curL_get : ∀ {l : List (Option Res)} {j : Nat} {res : Res}, curL Z r l = true → l[j]? = some (some res) → curO Z r (some res) = true
  | [], _, _, _, h => by simp at h
  | x :: l, 0, res, h, hj => by
    simp only [List.getElem?_cons_zero, Option.some.injEq] at hj
    subst hj
    simp only [curL, Bool.and_eq_true] at h
    exact h.1
  | x :: l, j + 1, res, h, hj => by
    simp only [curL, Bool.and_eq_true] at h
    exact curL_get h.2 (by simpa using hj)

theorem curR_find : ∀ {l : Rs} {s : Nat} {rs : RS}, curR Z r l = true → findR s l = some rs → curL Z r rs.l = true
  | [], _, _, _, h => by simp [findR] at h
  | (t, rs') :: l, s, rs, h, hf => by
    simp only [curR, Bool.and_eq_true] at h
    simp only [findR] at hf
    split at hf
    · cases hf; exact h.1
    · exact curR_find h.2 hf

theorem resOK_can {pl : Pl} {s : Nat} {res : Res} (hc : curO Z r (some res) = true) (h : ResOK cx w r β pl res) : ResOK cx w (canR Z r) β pl (canRes Z s res) := by
  unfold ResOK at h ⊢
  rw [canRes_var]
  by_cases hv : res.var = true
  · rw [if_pos hv] at h ⊢
    simp only [curO, hv, Bool.not_true, Bool.false_or] at hc
    obtain ⟨h0, b, c, e, h1, h2, h3, h4⟩ := h
    exact ⟨by rw [canRes_fz]; exact h0, b, c, e, h1, h2, by unfold canRes; rw [if_pos hv]; exact reCs_can hc h3, h4⟩
  · rw [if_neg hv] at h ⊢
    obtain ⟨ds, h1, h2, h3⟩ := h
    refine ⟨ds, by unfold canRes; rw [if_neg hv]; exact h1, by rw [canRes_sz, av_can]; exact h2, ?_⟩
    rw [canRes_fz, av_can]
    exact h3
end

theorem Gh.can (Z : List Nat) {v : List AV} {r : Rs} (hv : curAs Z r v = true) (hr : curR Z r r = true) : Gh ⟨v, r⟩ ⟨canAs Z v, canR Z r⟩ := fun cx a w ⟨β, hh⟩ => by
  have hlk : ∀ {s j : Nat} {res : Res}, lookR (canR Z r) s j = some res → ∃ res0, lookR r s j = some res0 ∧ res = canRes Z s res0 := fun {s j res} hl => by
    rw [look_can] at hl
    cases h0 : lookR r s j with
    | none => rw [h0] at hl; cases hl
    | some res0 => rw [h0] at hl; simp only [Option.map_some, Option.some.injEq] at hl; exact ⟨res0, rfl, hl.symm⟩
  have hO : ∀ {s j : Nat} {res : Res}, lookR r s j = some res → curO Z r (some res) = true := fun {s j res} hl => by
    unfold lookR at hl
    split at hl
    · rename_i rs hf
      split at hl
      · rename_i res' hj
        cases hl
        exact curL_get (curR_find hr hf) hj
      · cases hl
    · cases hl
  have hlen : ∀ (l : List AV), (canAs Z l).length = l.length := fun l => by induction l with
    | nil => rfl
    | cons x l ih => simp only [canAs, List.length_cons, ih]
  have hget : ∀ (l : List AV) (i : Nat) (y : AV), curAs Z r l = true → (canAs Z l)[i]? = some y → ∃ x, l[i]? = some x ∧ y = canA Z x ∧ curA Z r x = true := fun l => by
    induction l with
    | nil => intro i y _ h; simp [canAs] at h
    | cons x l ih =>
      intro i y hc h
      simp only [curAs, Bool.and_eq_true] at hc
      cases i with
      | zero => simp only [canAs, List.getElem?_cons_zero, Option.some.injEq] at h; exact ⟨x, rfl, h.symm, hc.1⟩
      | succ i => simpa using ih i y hc.2 (by simpa [canAs] using h)
  refine ⟨β, ?_⟩
  refine { sz := by rw [hh.sz]; exact (hlen v).symm, df := hh.df, sl := fun i y hi => ?_, rs := fun s j res hl => ?_, inj := fun s j res s' j' res' b o o' h1 f1 h2 f2 hb1 hb2 => ?_,
           fr := fun s j res b o hl hf hb => ?_, n0 := hh.n0, old := hh.old, a0 := hh.a0, bor := hh.bor, ob := fun p b hm => ?_, rw := fun p n u hm => ?_, os := hh.os, out := hh.out }
  · obtain ⟨x, h1, rfl, h3⟩ := hget v i y hv hi
    obtain ⟨u, g1, g2⟩ := hh.sl i x h1
    exact ⟨u, g1, reA_can h3 g2⟩
  · obtain ⟨res0, h0, rfl⟩ := hlk hl
    obtain ⟨g1, g2⟩ := hh.rs s j res0 h0
    refine ⟨resOK_can (hO h0) g1, ?_⟩
    rw [canRes_e]
    exact lt_can (h := ⟨s, j, res0.e⟩) g2
  · obtain ⟨r1, e1, rfl⟩ := hlk h1
    obtain ⟨r2, e2, rfl⟩ := hlk h2
    exact hh.inj _ _ _ _ _ _ _ _ _ e1 (by rwa [canRes_fz] at f1) e2 (by rwa [canRes_fz] at f2) hb1 hb2
  · obtain ⟨r1, e1, rfl⟩ := hlk hl
    rw [canRes_fz] at hf
    rw [canRes_bor]
    exact hh.fr _ _ _ _ _ e1 hf hb
  · obtain ⟨h1, h2⟩ := hh.ob p b hm
    refine ⟨?_, fun res hg => ?_⟩
    · rw [nxt_can]
      split
      · exact h1
      · have : (findR p r).isSome = true := by
          unfold nxt at h1
          cases hf : findR p r with
          | none => rw [hf] at h1; simp at h1
          | some _ => rfl
        rw [if_pos this]
        decide
    · obtain ⟨e1, e2⟩ := lookR_of_getR hg
      obtain ⟨r1, e3, rfl⟩ := hlk e1
      rw [canRes_e] at e2
      simp only at e2
      unfold epZ at e2
      split at e2
      · exact h2 r1 (getR_of_lookR e3 e2)
      · simp at e2
  · have := hh.rw p n u hm
    simp only [ReC] at this ⊢
    obtain ⟨h1, h2, h3⟩ := this
    refine ⟨h1, ?_, fun res hg => ?_⟩
    · rw [nxt_can]
      split
      · exact h2
      · have : (findR p r).isSome = true := by
          unfold nxt at h2
          cases hf : findR p r with
          | none => rw [hf] at h2; simp at h2
          | some _ => rfl
        rw [if_pos this]
        decide
    · obtain ⟨e1, e2⟩ := lookR_of_getR hg
      obtain ⟨r1, e3, rfl⟩ := hlk e1
      rw [canRes_e] at e2
      simp only at e2
      unfold epZ at e2
      split at e2
      · exact own_can (h3 r1 (getR_of_lookR e3 e2))
      · simp at e2

def fgc (Z : List Nat) (r : Rs) : List AV → List AV → Prop
  | [], [] => True
  | x :: xs, y :: ys => (y = .one .dead ∨ (curA Z r x = true ∧ canA Z x = y)) ∧ fgc Z r xs ys
  | _, _ => False

theorem fgc_nil {Z : List Nat} {r : Rs} : fgc Z r [] [] = True := rfl
theorem fgc_dead {Z : List Nat} {r : Rs} {x : AV} {xs ys : List AV} : fgc Z r (x :: xs) (.one .dead :: ys) = fgc Z r xs ys := by simp [fgc]
theorem fgc_dv {Z : List Nat} {r : Rs} {x y : D} {xs ys : List AV} : fgc Z r (.one (.d x) :: xs) (.one (.d y) :: ys) = (x = y ∧ fgc Z r xs ys) := by simp [fgc, canA, canC, curA, curC]
theorem fgc_lent {Z : List Nat} {r : Rs} {n : Nat} {x : List D} {xs ys : List AV} : fgc Z r (.one (.lent n x) :: xs) (.one (.lent n x) :: ys) = fgc Z r xs ys := by simp [fgc, canA, canC, curA, curC]
theorem fgc_ptr {Z : List Nat} {r : Rs} {h h' : Hd} {o : Nat} {xs ys : List AV} : fgc Z r (.one (.ptr h o) :: xs) (.one (.ptr h' o) :: ys) = ((curH Z r h = true ∧ (⟨h.s, h.j, epZ Z h.s h.e⟩ : Hd) = h') ∧ fgc Z r xs ys) := by simp [fgc, canA, canC, curA, curC]
theorem fgc_own {Z : List Nat} {r : Rs} {h h' : Hd} {o n m : Nat} {xs ys : List AV} : fgc Z r (.one (.own h o n) :: xs) (.one (.own h' o m) :: ys) = ((curH Z r h = true ∧ (⟨h.s, h.j, epZ Z h.s h.e⟩ : Hd) = h' ∧ n = m) ∧ fgc Z r xs ys) := by simp [fgc, canA, canC, curA, curC]
theorem fgc_cons {Z : List Nat} {r : Rs} {x y : AV} {xs ys : List AV} (h1 : curA Z r x = true) (h2 : canA Z x = y) : fgc Z r (x :: xs) (y :: ys) = fgc Z r xs ys := by
  simp [fgc, h1, h2]

theorem fgc_mid {Z : List Nat} {r : Rs} : ∀ {v v' : List AV}, fgc Z r v v' → ∃ v1, fgt v v1 ∧ curAs Z r v1 = true ∧ canAs Z v1 = v'
  | [], [], _ => ⟨[], trivial, rfl, rfl⟩
  | x :: xs, y :: ys, h => by
    obtain ⟨h1, h2⟩ := h
    obtain ⟨v1, g1, g2, g3⟩ := fgc_mid h2
    rcases h1 with rfl | ⟨h1, rfl⟩
    · exact ⟨.one .dead :: v1, ⟨.inl rfl, g1⟩, by simp [curAs, curA, curC, g2], by simp [canAs, canA, canC, g3]⟩
    · exact ⟨x :: v1, ⟨.inr rfl, g1⟩, by simp [curAs, h1, g2], by simp [canAs, g3]⟩
  | [], _ :: _, h => h.elim
  | _ :: _, [], h => h.elim

theorem Gh.canon (keep adds Z : List Nat) {v v' : List AV} {r r' : Rs} (h : fgc Z (dropAll keep r ++ adds.map fun s => (s, (⟨0, []⟩ : RS))) v v')
    (hc : curR Z (dropAll keep r ++ adds.map fun s => (s, (⟨0, []⟩ : RS))) (dropAll keep r ++ adds.map fun s => (s, (⟨0, []⟩ : RS))) = true)
    (hr : canR Z (dropAll keep r ++ adds.map fun s => (s, (⟨0, []⟩ : RS))) = r') : Gh ⟨v, r⟩ ⟨v', r'⟩ := by
  obtain ⟨v1, h1, h2, h3⟩ := fgc_mid h
  subst hr h3
  exact (Gh.keep keep adds h1 rfl).trans (Gh.can Z h2 hc)
end Go.Pk

namespace Go.Pk
set_option linter.unusedSimpArgs false
set_option linter.unusedVariables false

def nilFR (r : Rs) (s k sz : Nat) : Rs :=
  match findR s r with
  | some rs => (match rs.l[0]? with
    | some (some V) => setR s ⟨rs.next + 1, (rs.l.set (k + 1) (some { e := rs.next, var := false, fz := false, sz, cells := [] })).set 0 (some { V with cells := V.cells.set k (.own ⟨s, k + 1, rs.next⟩ 0 0) })⟩ r
    | _ => r)
  | none => r

def isNilC : Option C → Bool
  | some (.d (.v (.slice none 0 0))) => true
  | _ => false

def nilFOK (r : Rs) (s k : Nat) : Bool :=
  match findR s r with
  | some rs => (match rs.l[0]?, rs.l[k + 1]? with
    | some (some V), some none => V.var && isNilC V.cells[k]?
    | _, _ => false)
  | none => false

end Go.Pk

namespace Go.Pk
set_option linter.unusedSimpArgs false
set_option linter.unusedVariables false

def sealFR (r : Rs) (s k : Nat) (x : C) : Rs :=
  match sealC r x with
  | some (d, r') => (match findR s r' with
    | some rs => (match rs.l[0]? with
      | some (some V) => setR s ⟨rs.next, rs.l.set 0 (some { V with cells := V.cells.set k (.d d) })⟩ r'
      | _ => r)
    | none => r)
  | none => r

def sealFOK (r : Rs) (s k : Nat) (x : C) : Prop :=
  match sealC r x with
  | some (_, r') => (match findR s r' with
    | some rs => (match rs.l[0]? with
      | some (some V) => V.var = true ∧ V.cells[k]? = some x
      | _ => False)
    | none => False)
  | none => False

end Go.Pk

namespace Go.Pk

abbrev iD (n : Int) : D := .v (.int .i64 n)
abbrev uD (n : Int) : D := .v (.int .u8 n)
abbrev bD (b : Bool) : D := .v (.bool b)
abbrev sD (s : ByteArray) : D := .v (.string s)
abbrev di (n : Int) : C := .d (.v (.int .i64 n))
abbrev db (n : Bool) : C := .d (.v (.bool n))
abbrev dS (s : ByteArray) : C := .d (.v (.string s))
abbrev ai (n : Int) : AV := .one (.d (.v (.int .i64 n)))
abbrev au (n : Int) : AV := .one (.d (.v (.int .u8 n)))
abbrev ast (s : ByteArray) : AV := .one (.d (.v (.string s)))
abbrev ab (b : Bool) : AV := .one (.d (.v (.bool b)))
abbrev rb (b : Bool) : RF := .one (.d (.v (.bool b)))
abbrev ri (n : Int) : RF := .one (.d (.v (.int .i64 n)))
abbrev dd : AV := .one .dead
abbrev anil : AV := .one (.d (.v (.slice none 0 0)))
abbrev al (n : Nat) (ds : List D) : AV := .one (.lent n ds)
abbrev High : Int := 2305843009213693952

def i64 (n : Int) : Prop := -9223372036854775808 ≤ n ∧ n < 9223372036854775808

structure Req where
  client : Int
  seq : Int
  kind : Int
  session : Int
  name : ByteArray
abbrev Req.enc (r : Req) : List D := [iD r.client, iD r.seq, iD r.kind, iD r.session, sD r.name]
def Req.ok (r : Req) : Prop := i64 r.client ∧ i64 r.seq ∧ i64 r.kind ∧ i64 r.session ∧ r.name.size < 2 ^ 62

structure Tip where
  view : Int
  slot : Int
  deriving DecidableEq

structure Batch where
  fill : Bool
  view : Int
  tip : Tip
  time : Int
  reqs : List Req
abbrev reqsE (l : List Req) : List D := l.flatMap Req.enc
abbrev Batch.enc (b : Batch) : List D := [bD b.fill, iD b.view, iD b.tip.view, iD b.tip.slot, iD b.time, .sl b.reqs.length (reqsE b.reqs)]
abbrev Batch.lent (b : Batch) : List C := [db b.fill, di b.view, di b.tip.view, di b.tip.slot, di b.time, .lent b.reqs.length (reqsE b.reqs)]
def Batch.ok (b : Batch) : Prop := i64 b.view ∧ i64 b.tip.view ∧ i64 b.tip.slot ∧ i64 b.time ∧ b.reqs.length < 2 ^ 42 ∧ ∀ r ∈ b.reqs, r.ok

structure Vote where
  slot : Int
  ballot : Int
  batch : Batch
abbrev Vote.enc (v : Vote) : List D := iD v.slot :: iD v.ballot :: v.batch.enc
def Vote.ok (v : Vote) : Prop := i64 v.slot ∧ i64 v.ballot ∧ v.batch.ok

structure Prom where
  src : Int
  done : Int
  tip : Tip
  time : Int
  votes : List Vote
abbrev votesE (l : List Vote) : List D := l.flatMap Vote.enc
abbrev Prom.enc (p : Prom) : List D := [iD p.src, iD p.done, iD p.tip.view, iD p.tip.slot, iD p.time, .sl p.votes.length (votesE p.votes)]
abbrev Prom.lent (p : Prom) : List C := [di p.src, di p.done, di p.tip.view, di p.tip.slot, di p.time, .lent p.votes.length (votesE p.votes)]
def Prom.ok (p : Prom) : Prop := i64 p.src ∧ i64 p.done ∧ i64 p.tip.view ∧ i64 p.tip.slot ∧ i64 p.time ∧ p.votes.length < 2 ^ 42 ∧ ∀ v ∈ p.votes, v.ok
abbrev promisesE (l : List Prom) : List D := l.flatMap Prom.enc
abbrev batchesE (l : List Batch) : List D := l.flatMap Batch.enc

end Go.Pk

namespace Go.Pk
theorem sub0 {n : Nat} : sub 0 0 n [] = [] := by simp [sub]
theorem sub1_1 {x0 : C} : sub 0 1 1 [x0] = [x0] := rfl
theorem sub1_2 {x0 x1 : C} : sub 0 1 2 [x0, x1] = [x0, x1] := rfl
theorem sub1_3 {x0 x1 x2 : C} : sub 0 1 3 [x0, x1, x2] = [x0, x1, x2] := rfl
theorem sub1_4 {x0 x1 x2 x3 : C} : sub 0 1 4 [x0, x1, x2, x3] = [x0, x1, x2, x3] := rfl
theorem sub1_5 {x0 x1 x2 x3 x4 : C} : sub 0 1 5 [x0, x1, x2, x3, x4] = [x0, x1, x2, x3, x4] := rfl
theorem sub1_6 {x0 x1 x2 x3 x4 x5 : C} : sub 0 1 6 [x0, x1, x2, x3, x4, x5] = [x0, x1, x2, x3, x4, x5] := rfl
theorem sub1_7 {x0 x1 x2 x3 x4 x5 x6 : C} : sub 0 1 7 [x0, x1, x2, x3, x4, x5, x6] = [x0, x1, x2, x3, x4, x5, x6] := rfl
theorem sub1_8 {x0 x1 x2 x3 x4 x5 x6 x7 : C} : sub 0 1 8 [x0, x1, x2, x3, x4, x5, x6, x7] = [x0, x1, x2, x3, x4, x5, x6, x7] := rfl
theorem take_enc {α β : Type} (enc : α → List β) (sz : Nat) (h : ∀ x, (enc x).length = sz) (l : List α) : (l.flatMap enc).take (l.length * sz) = l.flatMap enc := List.take_of_length_le (Nat.le_of_eq (len_enc enc sz h l))
theorem reqs_take {l : List Req} : (reqsE l).take (l.length * 5) = reqsE l := take_enc Req.enc 5 (fun _ => rfl) l
theorem votes_take {l : List Vote} : (votesE l).take (l.length * 8) = votesE l := take_enc Vote.enc 8 (fun _ => rfl) l
theorem promises_take {l : List Prom} : (promisesE l).take (l.length * 6) = promisesE l := take_enc Prom.enc 6 (fun _ => rfl) l
theorem batches_take {l : List Batch} : (batchesE l).take (l.length * 6) = batchesE l := take_enc Batch.enc 6 (fun _ => rfl) l
section
variable {T : Nat → Option TI} {P : Program}
theorem CondR_tt {x y : Code} {g : G} {Q : Ex → G → Prop} (h : awp T P x g Q) : CondR T P (.one (.d (.v (.bool true)))) True x y g Q := ⟨trivial, fun _ => h, fun h => (by cases h)⟩
theorem CondR_ff {x y : Code} {g : G} {Q : Ex → G → Prop} (h : awp T P y g Q) : CondR T P (.one (.d (.v (.bool false)))) True x y g Q := ⟨trivial, fun h => (by cases h), fun _ => h⟩
end
theorem bad_x0 : Go.Pk.bad.x = .one .dead := rfl
theorem pkX : type_of% (And.intro (And.intro (And.intro (And.intro (@sub0) (And.intro (Nat.sub_zero) (@reqs_take))) (And.intro (@votes_take) (And.intro (@promises_take) (@batches_take)))) (And.intro (And.intro (Bool.true_beq) (And.intro (Bool.false_beq) (@toDs_map))) (And.intro (@sub_map) (And.intro (Nat.zero_mul) (Nat.one_mul))))) (And.intro (And.intro (And.intro (Nat.mul_one) (And.intro (@List.drop_zero.{0}) (@List.length_map.{0,0}))) (And.intro (@sub1_1) (And.intro (@sub1_2) (@sub1_3)))) (And.intro (And.intro (@sub1_4) (And.intro (@sub1_5) (@sub1_6))) (And.intro (And.intro (@sub1_7) (@sub1_8)) (And.intro (Int.toNat_zero) (Int.toNat_one)))))) := And.intro (And.intro (And.intro (And.intro (@sub0) (And.intro (Nat.sub_zero) (@reqs_take))) (And.intro (@votes_take) (And.intro (@promises_take) (@batches_take)))) (And.intro (And.intro (Bool.true_beq) (And.intro (Bool.false_beq) (@toDs_map))) (And.intro (@sub_map) (And.intro (Nat.zero_mul) (Nat.one_mul))))) (And.intro (And.intro (And.intro (Nat.mul_one) (And.intro (@List.drop_zero.{0}) (@List.length_map.{0,0}))) (And.intro (@sub1_1) (And.intro (@sub1_2) (@sub1_3)))) (And.intro (And.intro (@sub1_4) (And.intro (@sub1_5) (@sub1_6))) (And.intro (And.intro (@sub1_7) (@sub1_8)) (And.intro (Int.toNat_zero) (Int.toNat_one)))))
end Go.Pk

namespace Go.Pk
def Stop (p : Prop) : Prop := p
theorem stop_of (n : Nat) {T : Nat → Option TI} {P : Program} {ops : Array Oper} {d : Bool} {y : Code} {Q : Ex → G → Prop} {g : G} (h : Stop (SeqQ T P (.seq (.region n ops d) y) Q .normal g)) :
    SeqQ T P (.seq (.region n ops d) y) Q .normal g := h
def codeAt (n : Nat) : Code → Option Code
  | .seq (.region m ops d) y => if m == n then some (.seq (.region m ops d) y) else codeAt n y
  | .seq a y => (codeAt n a).or (codeAt n y)
  | .cond _ a b => (codeAt n a).or (codeAt n b)
  | .block _ b => codeAt n b
  | .loop b => codeAt n b
  | .scope b => codeAt n b
  | _ => none
theorem shAll_cons {s : Sh} {ss : List Sh} {dss : List (List D)} (h : ShAll (s :: ss) dss) : ∃ d ds, dss = d :: ds ∧ ShD s d ∧ ShAll ss ds := by
  cases dss with
  | nil => exact h.elim
  | cons d ds => exact ⟨d, ds, rfl, h.1, h.2⟩
theorem shAll_nil {dss : List (List D)} (h : ShAll [] dss) : dss = [] := by
  cases dss with
  | nil => rfl
  | cons d ds => exact h.elim
end Go.Pk

namespace Go.Pk
set_option linter.unusedSimpArgs false
set_option linter.unusedVariables false
set_option linter.unusedSectionVars false

section
variable {T : Nat → Option TI}

end


theorem Rd.sub {w : World} {A A' : Nat → Prop} (h : ∀ b, A' b → A b) {d : D} {u : Value} (hd : Rd w A d u) : Rd w A' d u :=
  hd.stb (⟨fun _ _ _ => rfl, fun b _ hb => h b hb⟩ : Stb w A w A')

theorem RowM.take {w : World} {A A' : Nat → Prop} (h : ∀ b, A' b → A b) {pl : Pl} {sz : Nat} {ds xs : List D} (hm : RowM w A pl sz (ds ++ xs)) : RowM w A' pl sz ds := by
  unfold RowM at *
  split at hm
  · exact ⟨(List.append_eq_nil_iff.1 hm.1).1, hm.2⟩
  · obtain ⟨c, e, h1, h2, h3, h4⟩ := hm
    refine ⟨c, e, h1, h2, by rw [List.length_append] at h3; omega, fun k d hk => ?_⟩
    obtain ⟨u, g1, g2⟩ := h4 k d (by rw [List.getElem?_append_left (List.getElem?_eq_some_iff.1 hk).1]; exact hk)
    exact ⟨u, g1, g2.sub h⟩

end Go.Pk

namespace Go.Pk
set_option linter.unusedSimpArgs false
set_option linter.unusedVariables false

def closeP1 (r : Rs) (y : AV) (ys : List AV) (post : List RF → List RO → Prop) : Prop :=
  match y with
  | .one (.ptr hd 0) => match getR r hd with
    | some res => match roCs r res.cells, avRFs r ys with
      | some l, some rfs => res.var = true ∧ ndB (ownHs r (avCellss ys ++ res.cells)) = true ∧ post rfs l
      | _, _ => False
    | none => False
  | _ => False

def closeP (T : Nat → Option TI) (rvs : List ResultVar) (post : List RF → List RO → Prop) (g : G) : Prop :=
  (resAs T g.v g.r rvs).1 ∧ match (resAs T g.v g.r rvs).2 with
    | y :: ys => closeP1 g.r y ys post
    | [] => False

def EndP (T : Nat → Option TI) (rvs : List ResultVar) (post : List RF → List RO → Prop) (e : Ex) (g : G) : Prop :=
  match e with
  | .normal => closeP T rvs post g
  | .ret => closeP T rvs post g
  | .exit _ => False
theorem EndP_normal {T : Nat → Option TI} {rvs : List ResultVar} {post : List RF → List RO → Prop} {g : G} : EndP T rvs post .normal g = closeP T rvs post g := rfl
theorem EndP_ret {T : Nat → Option TI} {rvs : List ResultVar} {post : List RF → List RO → Prop} {g : G} : EndP T rvs post .ret g = closeP T rvs post g := rfl
section
variable {P : Program} {cx : Cx} {T : Nat → Option TI} {v : List AV} {r : Rs} {a : Act} {w : World} {β : Nat → Nat → Pl}

theorem retP_of (h : Holds cx ⟨v, r⟩ a w β) (hB : cx.Bor = fun _ => False) {ys : List AV} {us : List Value} {hd : Hd} {res : Res} {rfs : List RF} {l : List RO} (hu : ReAs cx w r β (.one (.ptr hd 0) :: ys) us)
    (hg : getR r hd = some res) (hv : res.var = true) (h1 : roCs r res.cells = some l) (h2 : avRFs r ys = some rfs) (h3 : ndB (ownHs r (avCellss ys ++ res.cells)) = true) :
    ∃ b, cx.w0.heap.size ≤ b ∧ Ret cx.w0 (fun x => cx.A0 x ∨ x ∈ blks [.blk b]) (fun _ => False) w [.blk b] (.one (.d (.v (ptrV b))) :: rfs) [l] (tupV us) := by
  obtain ⟨hlk, hee⟩ := lookR_of_getR hg
  have hok := (h.rs _ _ _ hlk).1
  unfold ResOK at hok
  rw [if_pos hv] at hok
  obtain ⟨hf, b, arr, e, hb, _, _, _⟩ := hok
  have hn : cx.n0 ≤ b := by
    have := (h.fr _ _ _ _ _ hlk hf hb).1
    rw [hB] at this
    exact this.resolve_right fun h => h
  simp only [ReAs] at hu
  obtain ⟨u0, us', rfl, g1, g2⟩ := hu
  simp only [ReA, ReC] at g1
  obtain ⟨b', o', e1, e2⟩ := g1.2.2 res hg
  rw [hb] at e1
  cases e1
  simp only [Nat.zero_add] at e2
  subst e2
  refine ⟨b, hn, ?_⟩
  have hcs : avCellss (.one (.d (.v (ptrV b))) :: ys) ++ flatCs [res.cells] = .d (.v (ptrV b)) :: (avCellss ys ++ res.cells) := by simp [avCellss, avCells, flatCs]
  have := ret_of (A1 := fun x => cx.A0 x ∨ x ∈ blks [.blk b]) (ps := [.h hd]) (bs := [.blk b]) (cs := [res.cells]) (objs := [l]) (ys := .one (.d (.v (ptrV b))) :: ys) (rfs := .one (.d (.v (ptrV b))) :: rfs) (us := ptrV b :: us') (u := tupV (ptrV b :: us')) h
    (fun x hx => hx.elim .inl fun hx => .inr ⟨hd.s, hd.j, res, 0, hlk, hf, by simp only [blks, List.mem_singleton] at hx; rw [hx]; exact hb⟩)
    (by simp only [ReAs]; exact ⟨_, us', rfl, reA_val.2 ⟨rfl, rfl⟩, g2⟩) rfl (by simp [avRFs, avRF, roC, h2]) (by simp only [ObjCs]; exact ⟨⟨res, hg, hv, rfl⟩, trivial⟩) (by simp [roCss, h1])
    (by rw [hcs]; simpa [ownHs, ownH] using h3) (by simp only [PosOK]; exact ⟨fun res' hr => hb, trivial⟩)
    (fun s j res' b' o hl hf' hv' hbase hm => by
      simp only [blks, List.mem_singleton] at hm
      subst hm
      obtain ⟨q1, q2⟩ := h.inj _ _ _ _ _ _ _ _ _ hl hf' hlk hf hbase hb
      subst q1 q2
      rw [hl] at hlk
      cases hlk
      rw [hv'] at hv
      cases hv)
  rw [hB] at this
  exact this

theorem callP_of (hT : TOK P T) (hm : P.follows .mixedOrders = true) {f : FuncId} {fn : Func} {c : Code} {rvs : List ResultVar} {n : Nat} (hf : P.funcs[f]? = some fn) (hb : fn.body = some c)
    (hres : fn.results = rvs.toArray) (hn : fn.ntmps = n) (hcall : ∀ (us : Array Value) (w : World), (callFunc f us).run P w = .ok (.enter f us) w) {args : List Arg} {rfs : List RF} {l : List RO}
    (h : awp T P c (openG n args) (EndP T rvs fun x y => x = rfs ∧ y = l)) : CallP P f args rfs l := by
  refine ⟨hcall, fun w A0 us hA ha => ?_⟩
  refine calls_of_wp hf hb ?_
  have hob : argObjs args = [] := by
    clear h
    have : ∀ {args : List Arg} {k : Nat} {us : List Value}, ArgsOK P w A0 (fun _ => False) (fun _ => ⟨none, 0⟩) k args [] us → argObjs args = [] := by
      intro args
      induction args with
      | nil => intros; rfl
      | cons x xs ih =>
        intro k us ha
        cases x with
        | f y => simp only [ArgsOK] at ha; obtain ⟨_, us', _, _, ha⟩ := ha; exact ih ha
        | obj _ => simp only [ArgsOK] at ha; obtain ⟨_, _, _, _, _, _, e, _⟩ := ha; cases e
        | row _ _ _ => simp only [ArgsOK] at ha; obtain ⟨_, _, _, _, e, _⟩ := ha; cases e
        | agr _ _ _ _ _ => simp only [ArgsOK] at ha; obtain ⟨_, _, _, _, _, _, e, _⟩ := ha; cases e
    exact this ha
  have h0 := holds_open (n := n) ha hA (fun b hb => hb.elim) (by rw [hob]; intro b hb; exact hb.elim) List.nodup_nil (by rw [hob]; intro i j b o o' sz n ds bo sz' n' ds' bo' h1; simp at h1)
  have hend : ∀ g a w', HoldsE (cxO P w A0 (fun _ => False) args []) g a w' → closeP T rvs (fun x y => x = rfs ∧ y = l) g →
      a.defers = [] ∧ ∃ v, (results fn a.tmps).run P w' = .ok v w' ∧ ∃ bs r objs u, (∃ b, bs = [.blk b] ∧ r = .one (.d (.v (ptrV b))) :: rfs ∧ objs = [l]) ∧ Ending.returned v = .returned u ∧ (∀ b ∈ blks bs, w.heap.size ≤ b) ∧
        Ret w (fun b => A0 b ∨ b ∈ blks bs) (fun _ => False) w' bs r objs u := by
    rintro ⟨v, r⟩ a w' ⟨β, hh⟩ ⟨g1, g2⟩
    obtain ⟨vs, k1, k2⟩ := resAs_ok (cx := cxO P w A0 (fun _ => False) args []) hT hh g1
    refine ⟨hh.df, tupV vs, results_run hres k1, ?_⟩
    simp only at g2
    split at g2
    · rename_i y ys hys
      rw [hys] at k2
      unfold closeP1 at g2
      split at g2
      · rename_i hd
        split at g2
        · rename_i res hg
          split at g2
          · rename_i l' rfs' q1 q2
            obtain ⟨q3, q4, rfl, rfl⟩ := g2
            obtain ⟨b, hb0, hret⟩ := retP_of hh rfl k2 hg q3 q1 q2 q4
            exact ⟨_, _, _, _, ⟨b, rfl, rfl, rfl⟩, rfl, fun x hx => by simp only [blks, List.mem_singleton] at hx; subst hx; exact hb0, hret⟩
          · exact g2.elim
        · exact g2.elim
      · exact g2.elim
    · exact g2.elim
  have hact : ({ tmps := us.toArray ++ Array.replicate (fn.ntmps - us.toArray.size) undef, defers := [] } : Act) = { tmps := us.toArray ++ Array.replicate (n - us.length) undef, defers := [] } := by rw [hn]; simp
  rw [hact]
  refine awp_ok (cx := cxO P w A0 (fun _ => False) args []) hT hm c (openG n args) _ _ (fun e g a w' hh hq => ?_) h _ _ ⟨_, h0⟩
  cases e with
  | normal => exact hend g a w' hh hq
  | ret => exact hend g a w' hh hq
  | exit id => exact hq.elim

theorem CallP.le {f : FuncId} {as as' : List Arg} {rfs : List RF} {l : List RO} (h : CallP P f as' rfs l) (hl : argsLe as as') : CallP P f as rfs l :=
  ⟨h.1, fun w A0 us h1 h3 => h.2 w A0 us h1 (argsLe_ok hl h3).1⟩
end
end Go.Pk

namespace Go.Pk
set_option linter.unusedSimpArgs false
set_option linter.unusedVariables false

def roA (a b : RO) : Prop :=
  match a, b with
  | .d x, .d y => y = x
  | .d (.v (.slice none 0 0)), .own _ n ds _ => n = 0 ∧ ds = []
  | .own sz n ds _, .own sz' n' ds' _ => sz' = sz ∧ n' = n ∧ ds' = ds
  | _, _ => False

def rosA : List RO → List RO → Prop
  | [], [] => True
  | a :: l, b :: m => roA a b ∧ rosA l m
  | _, _ => False

def roB (a b : RO) : Prop :=
  b = a ∨ match a, b with
  | .d (.v (.slice none 0 0)), .own _ n ds _ => n = 0 ∧ ds = []
  | .d (.v (.slice none 0 0)), .d (.sl n ds) => n = 0 ∧ ds = []
  | .own sz n ds _, .own sz' n' ds' bo' => sz' = sz ∧ n' = n ∧ ds' = ds ∧ bo' = true
  | _, _ => False

def rosB : List RO → List RO → Prop
  | [], [] => True
  | a :: l, b :: m => roB a b ∧ rosB l m
  | _, _ => False

def rfB : RF → RF → Prop
  | .one a, .one b => roB a b
  | .agg l, .agg m => rosB l m
  | _, _ => False

def rfsB : List RF → List RF → Prop
  | [], [] => True
  | a :: l, b :: m => rfB a b ∧ rfsB l m
  | _, _ => False

def objsB : List (List RO) → List (List RO) → Prop
  | [], [] => True
  | a :: l, b :: m => rosB a b ∧ objsB l m
  | _, _ => False

theorem rosB_refl : ∀ {a : List RO}, rosB a a
  | [] => trivial
  | x :: a => ⟨.inl rfl, rosB_refl⟩
theorem rfB_refl {a : RF} : rfB a a := by cases a; exact .inl rfl; exact rosB_refl
theorem rfsB_refl : ∀ {a : List RF}, rfsB a a
  | [] => trivial
  | x :: a => ⟨rfB_refl, rfsB_refl⟩
theorem objsB_refl : ∀ {a : List (List RO)}, objsB a a
  | [] => trivial
  | x :: a => ⟨rosB_refl, objsB_refl⟩

theorem rosB_append : ∀ {a b c d : List RO}, rosB a b → rosB c d → rosB (a ++ c) (b ++ d)
  | [], [], _, _, _, h => h
  | x :: a, y :: b, _, _, h, h' => ⟨h.1, rosB_append h.2 h'⟩
  | [], _ :: _, _, _, h, _ => h.elim
  | _ :: _, [], _, _, h, _ => h.elim

theorem rfsB_cells : ∀ {a b : List RF}, rfsB a b → rosB (a.flatMap RF.cells) (b.flatMap RF.cells)
  | [], [], _ => trivial
  | x :: a, y :: b, h => by
    simp only [List.flatMap_cons]
    refine rosB_append ?_ (rfsB_cells h.2)
    cases x with
    | one x => cases y with
      | one y => exact ⟨h.1, trivial⟩
      | agg _ => exact h.1.elim
    | agg l => cases y with
      | one y => exact h.1.elim
      | agg m => exact h.1
  | [], _ :: _, h => h.elim
  | _ :: _, [], h => h.elim

theorem objsB_flat : ∀ {a b : List (List RO)}, objsB a b → rosB a.flatten b.flatten
  | [], [], _ => trivial
  | x :: a, y :: b, h => by simp only [List.flatten_cons]; exact rosB_append h.1 (objsB_flat h.2)
  | [], _ :: _, h => h.elim
  | _ :: _, [], h => h.elim

theorem rosB_len : ∀ {a b : List RO}, rosB a b → b.length = a.length
  | [], [], _ => rfl
  | x :: a, y :: b, h => by simp [rosB_len h.2]
  | [], _ :: _, h => h.elim
  | _ :: _, [], h => h.elim

theorem rosB_get : ∀ {a b : List RO} {i : Nat} {y : RO}, rosB a b → b[i]? = some y → ∃ x, a[i]? = some x ∧ roB x y
  | [], [], _, _, _, h => by simp at h
  | x :: a, y :: b, 0, z, h, hi => by simp only [List.getElem?_cons_zero, Option.some.injEq] at hi; subst hi; exact ⟨x, rfl, h.1⟩
  | x :: a, y :: b, i + 1, z, h, hi => by simpa using rosB_get (i := i) h.2 (by simpa using hi)
  | [], _ :: _, _, _, h, _ => h.elim
  | _ :: _, [], _, _, h, _ => h.elim

theorem rosA_get : ∀ {a b : List RO} {i : Nat} {y : RO}, rosA a b → b[i]? = some y → ∃ x, a[i]? = some x ∧ roA x y
  | [], [], _, _, _, h => by simp at h
  | x :: a, y :: b, 0, z, h, hi => by simp only [List.getElem?_cons_zero, Option.some.injEq] at hi; subst hi; exact ⟨x, rfl, h.1⟩
  | x :: a, y :: b, i + 1, z, h, hi => by simpa using rosA_get (i := i) h.2 (by simpa using hi)
  | [], _ :: _, _, _, h, _ => h.elim
  | _ :: _, [], _, _, h, _ => h.elim

section
variable {P : Program} {w : World} {A0 Bor : Nat → Prop} {γ : Nat → Pl} {A A' : Nat → Prop} {L : List RO}

theorem own_B {x : RO} {sz n : Nat} {ds : List D} {bo : Bool} (h : roB x (.own sz n ds bo)) : (∃ bo', x = .own sz n ds bo' ∧ (bo = false → bo' = false)) ∨ ∃ y, x = .d y := by
  rcases h with h | h
  · exact .inl ⟨bo, h.symm, id⟩
  · split at h
    · exact .inr ⟨_, rfl⟩
    · rename_i q; cases q
    · rename_i sz0 n0 ds0 bo0 sz1 n1 ds1 bo1 q
      cases q
      obtain ⟨rfl, rfl, rfl, rfl⟩ := h
      exact .inl ⟨bo0, rfl, fun h => by cases h⟩
    · exact h.elim

theorem roc_B (hA : ∀ b, A' b → A b) {a b : RO} {u : Value} {i : Nat} (hi : L[i]? = some a) (h : roB a b) (hu : ROc A w (γ i) a u) : ROc A' w (γN γ L i) b u := by
  rcases h with rfl | h
  · exact roc_same hA hi hu
  · split at h
    · obtain ⟨rfl, rfl⟩ := h
      exact roc_nilo hi hu
    · obtain ⟨rfl, rfl⟩ := h
      exact roc_nild hu
    · obtain ⟨rfl, rfl, rfl, rfl⟩ := h
      have := roc_same (L := L) (γ := γ) hA hi hu
      simp only [ROc] at this ⊢
      exact this
    · exact h.elim

theorem roc_A {a b : RO} {u : Value} {i : Nat} (hi : L[i]? = some a) (h : roA a b) (hu : ROc A w (γ i) a u) : ROc A w (γN γ L i) b u := by
  unfold roA at h
  split at h
  · subst h
    exact roc_same (fun _ h => h) hi hu
  · obtain ⟨rfl, rfl⟩ := h
    exact roc_nilo hi hu
  · obtain ⟨rfl, rfl, rfl⟩ := h
    have := roc_same (L := L) (γ := γ) (A' := A) (fun _ h => h) hi hu
    simp only [ROc] at this ⊢
    exact this
  · exact h.elim

theorem rocs_B (hA : ∀ b, A' b → A b) : ∀ {a b : List RO} {k : Nat} {us : List Value}, (∀ i x, a[i]? = some x → L[k + i]? = some x) → rosB a b → ROcs A w γ k a us → ROcs A' w (γN γ L) k b us
  | [], [], k, us, _, _, h => h
  | x :: a, y :: b, k, us, hL, hl, h => by
    simp only [ROcs] at h ⊢
    obtain ⟨u, us', rfl, h1, h2⟩ := h
    refine ⟨u, us', rfl, roc_B hA (hL 0 x rfl) hl.1 h1, rocs_B hA (fun i x' hi => ?_) hl.2 h2⟩
    have := hL (i + 1) x' (by simpa using hi)
    rwa [show k + (i + 1) = k + 1 + i by omega] at this
  | [], _ :: _, _, _, _, h, _ => h.elim
  | _ :: _, [], _, _, _, h, _ => h.elim

theorem rocs_A : ∀ {a b : List RO} {k : Nat} {us : List Value}, (∀ i x, a[i]? = some x → L[k + i]? = some x) → rosA a b → ROcs A w γ k a us → ROcs A w (γN γ L) k b us
  | [], [], k, us, _, _, h => h
  | x :: a, y :: b, k, us, hL, hl, h => by
    simp only [ROcs] at h ⊢
    obtain ⟨u, us', rfl, h1, h2⟩ := h
    refine ⟨u, us', rfl, roc_A (hL 0 x rfl) hl.1 h1, rocs_A (fun i x' hi => ?_) hl.2 h2⟩
    have := hL (i + 1) x' (by simpa using hi)
    rwa [show k + (i + 1) = k + 1 + i by omega] at this
  | [], _ :: _, _, _, _, h, _ => h.elim
  | _ :: _, [], _, _, _, h, _ => h.elim

theorem rfvs_B (hA : ∀ b, A' b → A b) : ∀ {a b : List RF} {k : Nat} {us : List Value}, (∀ i x, (a.flatMap RF.cells)[i]? = some x → L[k + i]? = some x) → rfsB a b → RFvs A w γ k a us → RFvs A' w (γN γ L) k b us
  | [], [], k, us, _, _, h => h
  | x :: a, y :: b, k, us, hL, hl, h => by
    simp only [RFvs] at h ⊢
    obtain ⟨u, us', rfl, h1, h2⟩ := h
    have hlen : y.cells.length = x.cells.length := by
      cases x with
      | one x => cases y with
        | one y => rfl
        | agg _ => exact hl.1.elim
      | agg l => cases y with
        | one y => exact hl.1.elim
        | agg m => exact rosB_len hl.1
    refine ⟨u, us', rfl, ?_, ?_⟩
    · have hx : ∀ i z, x.cells[i]? = some z → L[k + i]? = some z := fun i z hi => hL i z (by rw [List.flatMap_cons, List.getElem?_append_left (List.getElem?_eq_some_iff.1 hi).1]; exact hi)
      cases x with
      | one x => cases y with
        | one y => simp only [RFv] at h1 ⊢; exact roc_B hA (hx 0 x rfl) hl.1 h1
        | agg _ => exact hl.1.elim
      | agg l => cases y with
        | one y => exact hl.1.elim
        | agg m =>
          simp only [RFv] at h1 ⊢
          obtain ⟨vs, e1, e2⟩ := h1
          exact ⟨vs, e1, rocs_B hA hx hl.1 e2⟩
    · rw [hlen]
      refine rfvs_B hA (fun i z hi => ?_) hl.2 h2
      have := hL (x.cells.length + i) z (by rw [List.flatMap_cons, List.getElem?_append_right (Nat.le_add_right _ _)]; simpa using hi)
      rwa [Nat.add_assoc]
  | [], _ :: _, _, _, _, h, _ => h.elim
  | _ :: _, [], _, _, _, h, _ => h.elim

theorem objsAt_B (hA : ∀ b, A' b → A b) : ∀ {ls ms : List (List RO)} {k : Nat} {bs : List Hold}, (∀ i x, ls.flatten[i]? = some x → L[k + i]? = some x) → objsB ls ms → ObjsAt A w γ k ls bs → ObjsAt A' w (γN γ L) k ms bs
  | [], [], k, bs, _, _, h => by simpa [ObjsAt] using h
  | l :: ls, m :: ms, k, [], _, _, h => by simp [ObjsAt] at h
  | l :: ls, m :: ms, k, .blk b :: bs, hL, hl, h => by
    simp only [ObjsAt] at h ⊢
    obtain ⟨⟨c, e, h1, h2, h3⟩, h4⟩ := h
    refine ⟨⟨c, e, h1, rocs_B hA (fun i x hi => hL i x (by rw [List.flatten_cons, List.getElem?_append_left (List.getElem?_eq_some_iff.1 hi).1]; exact hi)) hl.1 h2, h3⟩, ?_⟩
    rw [rosB_len hl.1]
    refine objsAt_B hA (fun i x hi => ?_) hl.2 h4
    have := hL (l.length + i) x (by rw [List.flatten_cons, List.getElem?_append_right (Nat.le_add_right _ _)]; simpa using hi)
    rwa [Nat.add_assoc]
  | l :: ls, m :: ms, k, .val u :: bs, hL, hl, h => by
    simp only [ObjsAt] at h ⊢
    obtain ⟨h1, h4⟩ := h
    refine ⟨?_, ?_⟩
    · rcases h1 with rfl | h1
      · left
        have := rosB_len hl.1
        exact List.eq_nil_of_length_eq_zero (by simpa using this)
      · right
        exact rocs_B hA (fun i x hi => hL i x (by rw [List.flatten_cons, List.getElem?_append_left (List.getElem?_eq_some_iff.1 hi).1]; exact hi)) hl.1 h1
    rw [rosB_len hl.1]
    refine objsAt_B hA (fun i x hi => ?_) hl.2 h4
    have := hL (l.length + i) x (by rw [List.flatten_cons, List.getElem?_append_right (Nat.le_add_right _ _)]; simpa using hi)
    rwa [Nat.add_assoc]
  | [], _ :: _, _, _, _, h, _ => h.elim
  | _ :: _, [], _, _, _, h, _ => h.elim

theorem allRO_B {rfs rfs' : List RF} {objs objs' : List (List RO)} (h : rfsB rfs rfs') (ho : objsB objs objs') : rosB (allRO rfs objs) (allRO rfs' objs') := rosB_append (rfsB_cells h) (objsB_flat ho)

theorem Ret.le {w' : World} {bs : List Hold} {rfs rfs' : List RF} {objs objs' : List (List RO)} {u : Value} (h : Ret w A0 Bor w' bs rfs objs u) (hl : rfsB rfs rfs') (ho : objsB objs objs') : Ret w A0 Bor w' bs rfs' objs' u := by
  obtain ⟨⟨γ, us, m1, m2, m3, m4, m5, m6⟩, h2, h3, h4, h5⟩ := h
  have hle := allRO_B hl ho
  have hown : ∀ {i sz n b o : Nat} {ds : List D} {bo : Bool}, (allRO rfs' objs')[i]? = some (.own sz n ds bo) → (γN γ (allRO rfs objs) i).base = some (b, o) → ∃ bo', (allRO rfs objs)[i]? = some (.own sz n ds bo') ∧ (bo = false → bo' = false) ∧ (γ i).base = some (b, o) := fun {i sz n b o ds bo} hi hb => by
    obtain ⟨x, g1, g2⟩ := rosB_get hle hi
    rcases own_B g2 with ⟨bo', rfl, hbo⟩ | ⟨y, rfl⟩
    · refine ⟨bo', g1, hbo, ?_⟩
      unfold γN at hb
      rw [g1] at hb
      exact hb
    · unfold γN at hb
      rw [g1] at hb
      cases hb
  have hNB : ∀ b, NB (γN γ (allRO rfs objs)) 0 (allRO rfs' objs') b → NB γ 0 (allRO rfs objs) b := fun b hb => by
    obtain ⟨i, sz, n, ds, bo, o, g1, g2⟩ := NB_get hb
    rw [Nat.zero_add] at g2
    obtain ⟨bo', g3, _, g4⟩ := hown g1 g2
    exact NB_of (k := 0) g3 (by rw [Nat.zero_add]; exact g4)
  have hlen : (rfs'.flatMap RF.cells).length = (rfs.flatMap RF.cells).length := rosB_len (rfsB_cells hl)
  refine ⟨⟨γN γ (allRO rfs objs), us, m1, ?_, ?_, fun b hb => m4 b (hNB b hb), fun i sz n ds b o hi hb => ?_, fun i j b o o' sz n ds bo sz' n' ds' bo' hi hj hbi hbj => ?_⟩, h2, h3, h4, h5⟩
  · exact rfvs_B (fun b hb => hb.imp id (hNB b)) (fun i x hi => by rw [Nat.zero_add]; unfold allRO; rw [List.getElem?_append_left (List.getElem?_eq_some_iff.1 hi).1]; exact hi) hl m2
  · rw [hlen]
    exact objsAt_B (fun b hb => hb.imp id (hNB b)) (fun i x hi => by unfold allRO; rw [List.getElem?_append_right (Nat.le_add_right _ _)]; simpa using hi) ho m3
  · obtain ⟨bo', g1, g0, g2⟩ := hown hi hb
    rw [g0 rfl] at g1
    exact m5 i sz n ds b o g1 g2
  · obtain ⟨b1, g1, _, g2⟩ := hown hi hbi
    obtain ⟨b2, g3, _, g4⟩ := hown hj hbj
    exact m6 i j b o o' sz n ds b1 sz' n' ds' b2 g1 g3 g2 g4

theorem CallOK.leR {f : FuncId} {as : List Arg} {rfs' : List RF} {objs' : List (List RO)} (h : CallOK P f as (fun r o => rfsB r rfs' ∧ objsB o objs')) : CallOK P f as (fun r o => r = rfs' ∧ o = objs') :=
  ⟨h.1, fun w A0 Bor γ bs us h1 h2 h3 h4 h5 h6 => (h.2 w A0 Bor γ bs us h1 h2 h3 h4 h5 h6).mono fun e w' ⟨r, o, u, ⟨g1, g2⟩, g3, g4⟩ => ⟨rfs', objs', u, ⟨rfl, rfl⟩, g3, g4.le g1 g2⟩⟩

theorem CallP.leR {f : FuncId} {as : List Arg} {rfs rfs' : List RF} {l l' : List RO} (h : CallP P f as rfs l) (hr : rfsB rfs rfs') (hl : rosB l l') : CallP P f as rfs' l' :=
  ⟨h.1, fun w A0 us h1 h2 => (h.2 w A0 us h1 h2).mono fun e w' ⟨bs, r, o, u, ⟨b, g1, g2, g3⟩, g4, g5, g6⟩ => by
    subst g1 g2 g3
    exact ⟨_, _, _, u, ⟨b, rfl, rfl, rfl⟩, g4, g5, g6.le ⟨rfB_refl, hr⟩ ⟨hl, trivial⟩⟩⟩

theorem argsOK_γ {γ γ' : Nat → Pl} : ∀ {as : List Arg} {k k' : Nat} {bs : List Hold} {us : List Value}, argObjs as = [] → (∀ l, Arg.obj l ∉ as) → ArgsOK P w A0 Bor γ k as bs us → ArgsOK P w A0 Bor γ' k' as bs us
  | [], _, _, _, _, _, _, h => h
  | .f x :: as, k, k', bs, us, h0, h1, h => by
    simp only [ArgsOK] at h ⊢
    obtain ⟨u, us', e1, e2, e3⟩ := h
    exact ⟨u, us', e1, e2, argsOK_γ (by simpa [argObjs] using h0) (fun l hl => h1 l (List.mem_cons_of_mem _ hl)) e3⟩
  | .obj l :: as, _, _, _, _, _, h1, _ => absurd (List.mem_cons_self) (h1 l)
  | .row .. :: as, _, _, _, _, h0, _, _ => by simp [argObjs] at h0

def noObj : List Arg → Bool
  | [] => true
  | .f _ :: as => noObj as
  | _ :: _ => false
theorem noObj_of : ∀ {as : List Arg}, noObj as = true → argObjs as = [] ∧ ∀ l, Arg.obj l ∉ as
  | [], _ => ⟨rfl, fun l h => by simp at h⟩
  | .f x :: as, h => by
    obtain ⟨h1, h2⟩ := noObj_of (as := as) (by simpa [noObj] using h)
    exact ⟨by simpa [argObjs] using h1, fun l hl => by
      rcases List.mem_cons.1 hl with hl | hl
      · cases hl
      · exact h2 l hl⟩
  | .obj _ :: _, h => by simp [noObj] at h
  | .row .. :: _, h => by simp [noObj] at h

theorem CallOK.leO {f : FuncId} {x y : List RO} {as : List Arg} {post : List RF → List (List RO) → Prop} (h : CallOK P f (.obj y :: as) post) (hl : rosA x y) (hn : noObj as = true) : CallOK P f (.obj x :: as) post := by
  obtain ⟨hn1, hn2⟩ := noObj_of hn
  refine ⟨h.1, fun w A0 Bor γ bs us h1 h2 h3 h4 h5 h6 => ?_⟩
  have hx : argObjs (.obj x :: as) = x := by simp [argObjs, hn1]
  have hy : argObjs (.obj y :: as) = y := by simp [argObjs, hn1]
  rw [hx] at h4 h6
  have hown : ∀ {i sz n b o : Nat} {ds : List D} {bo : Bool}, y[i]? = some (.own sz n ds bo) → (γN γ x i).base = some (b, o) → ∃ sz' n' ds' bo', x[i]? = some (.own sz' n' ds' bo') ∧ (γ i).base = some (b, o) := fun {i sz n b o ds bo} hi hb => by
    obtain ⟨z, g1, g2⟩ := rosA_get hl hi
    cases z with
    | d z => unfold γN at hb; rw [g1] at hb; cases hb
    | own sz' n' ds' bo' =>
      unfold γN at hb
      rw [g1] at hb
      exact ⟨sz', n', ds', bo', g1, hb⟩
  refine h.2 w A0 Bor (γN γ x) bs us h1 h2 ?_ ?_ h5 ?_
  · simp only [ArgsOK] at h3 ⊢
    obtain ⟨b, bs', us', c, e, e1, e2, e3, e4, e5, e6, e7⟩ := h3
    exact ⟨b, bs', us', c, e, e1, e2, e3, e4, rocs_A (L := x) (fun i z hi => by rw [Nat.zero_add]; exact hi) hl e5, e6, argsOK_γ hn1 hn2 e7⟩
  · rw [hy]
    intro b hb
    obtain ⟨i, sz, n, ds, bo, o, g1, g2⟩ := NB_get hb
    rw [Nat.zero_add] at g2
    obtain ⟨sz', n', ds', bo', g3, g4⟩ := hown g1 g2
    exact h4 b (NB_of (k := 0) g3 (by rw [Nat.zero_add]; exact g4))
  · rw [hy]
    intro i j b o o' sz n ds bo sz' n' ds' bo' hi hj hbi hbj
    obtain ⟨s1, n1, d1, b1, g1, g2⟩ := hown hi hbi
    obtain ⟨s2, n2, d2, b2, g3, g4⟩ := hown hj hbj
    exact h6 i j b o o' s1 n1 d1 b1 s2 n2 d2 b2 g1 g3 g2 g4

theorem CallOK.leM {f : FuncId} {x y : List RO} {as as' : List Arg} {post : List RF → List (List RO) → Prop} (h : CallOK P f (.obj y :: as') post) (hl : rosA x y) (hn : noObj as' = true) (ha : argsLe as as') : CallOK P f (.obj x :: as) post :=
  (h.leO hl hn).le ⟨rfl, ha⟩
end

section
variable {T : Nat → Option TI} {P : Program}
theorem CallMJ_of {all : List Oper} {m : M} {rest : List Oper} {dst : Option Nat} {v : List AV} {r : Rs} {K : G → Prop} {n : FuncId} {x y : List RO} {ass as' : List Arg} {mv : Mv} {lent : List Nat} {rfs : List RF} {l' : List RO}
    {f : Operand} {args : Array Operand} {a : Option (FuncId × List Arg)} (hc : callM 0 v r f args = some (n, .obj x :: ass, mv, lent)) (h : CallOK P n (.obj y :: as') (fun r o => r = rfs ∧ o = [l'])) (hr : rosA x y) (hn : noObj as' = true) (ha : argsLe ass as')
    (hs : scM r dst mv lent l') (hk : aops T P all (upM dst mv.s m) rest (putV v dst (bindM r dst mv rfs l').1) (bindM r dst mv rfs l').2 K) : CallR T P all m rest dst v r K f args a :=
  CallM_of 0 hc (h.leM hr hn ha) hs hk
end
end Go.Pk

namespace Go.Pk

abbrev intsE (l : List Int) : List D := l.flatMap fun n => [iD n]

structure Sess where
  client : Int
  num : Int
  renewed : Int
abbrev Sess.enc (x : Sess) : List D := [iD x.client, iD x.num, iD x.renewed]
abbrev sessE (l : List Sess) : List D := l.flatMap Sess.enc

structure Lk where
  name : ByteArray
  holder : Int
  token : Int
  line : List Int
abbrev Lk.enc (k : Lk) : List D := [sD k.name, iD k.holder, iD k.token, .sl k.line.length (intsE k.line)]
abbrev locksE (l : List Lk) : List D := l.flatMap Lk.enc

structure Grant where
  name : ByteArray
  token : Int
abbrev Grant.enc (g : Grant) : List D := [sD g.name, iD g.token]
abbrev grantsE (l : List Grant) : List D := l.flatMap Grant.enc

structure Reply where
  code : Int
  session : Int
  ahead : Int
  held : List Grant
abbrev Reply.enc (r : Reply) : List D := [iD r.code, iD r.session, iD r.ahead, .sl r.held.length (grantsE r.held)]
abbrev Reply.lent (r : Reply) : List C := [di r.code, di r.session, di r.ahead, .lent r.held.length (grantsE r.held)]

structure Memo where
  client : Int
  seq : Int
  reply : Reply
abbrev Memo.enc (m : Memo) : List D := iD m.client :: iD m.seq :: m.reply.enc
abbrev Memo.lent (m : Memo) : List C := di m.client :: di m.seq :: m.reply.lent
abbrev memosE (l : List Memo) : List D := l.flatMap Memo.enc

structure St where
  time : Int
  num : Int
  token : Int
  sess : List Sess
  locks : List Lk
  memos : List Memo
abbrev St.lent (s : St) : List C := [di s.time, di s.num, di s.token, .lent s.sess.length (sessE s.sess), .lent s.locks.length (locksE s.locks), .lent s.memos.length (memosE s.memos)]
abbrev St.rf (s : St) : RF := .agg [.d (iD s.time), .d (iD s.num), .d (iD s.token), .own 3 s.sess.length (sessE s.sess) false, .own 4 s.locks.length (locksE s.locks) false, .own 6 s.memos.length (memosE s.memos) false]

theorem ints_len {l : List Int} : (intsE l).length = l.length * 1 := len_enc _ 1 (fun _ => rfl) l
theorem ints_len1 {l : List Int} : (intsE l).length = l.length := by rw [ints_len, Nat.mul_one]
theorem ints_take {l : List Int} : (intsE l).take l.length = intsE l := List.take_of_length_le (Nat.le_of_eq ints_len1)
theorem sess_take {l : List Sess} : (sessE l).take (l.length * 3) = sessE l := take_enc Sess.enc 3 (fun _ => rfl) l
theorem locks_take {l : List Lk} : (locksE l).take (l.length * 4) = locksE l := take_enc Lk.enc 4 (fun _ => rfl) l
theorem grants_take {l : List Grant} : (grantsE l).take (l.length * 2) = grantsE l := take_enc Grant.enc 2 (fun _ => rfl) l
theorem memos_take {l : List Memo} : (memosE l).take (l.length * 6) = memosE l := take_enc Memo.enc 6 (fun _ => rfl) l
theorem pkY : type_of% (And.intro (And.intro (And.intro (pkX) (And.intro (@ints_take) (@sess_take))) (And.intro (@locks_take) (And.intro (@grants_take) (@memos_take)))) (And.intro (And.intro (bad_x0) (And.intro (@Option.map_some.{0,0}) (@Option.map_none.{0,0}))) (And.intro (And.intro (Bool.not_true) (Bool.not_false)) (And.intro (@List.any_cons.{0}) (@List.any_nil.{0}))))) := And.intro (And.intro (And.intro (pkX) (And.intro (@ints_take) (@sess_take))) (And.intro (@locks_take) (And.intro (@grants_take) (@memos_take)))) (And.intro (And.intro (bad_x0) (And.intro (@Option.map_some.{0,0}) (@Option.map_none.{0,0}))) (And.intro (And.intro (Bool.not_true) (Bool.not_false)) (And.intro (@List.any_cons.{0}) (@List.any_nil.{0}))))
end Go.Pk

namespace Go.Pk
set_option linter.unusedSimpArgs false
set_option linter.unusedVariables false
theorem stop_go {p : Prop} (h : p) : Stop p := h
theorem stop_of1 (n : Nat) {T : Nat → Option TI} {P : Program} {ops : Array Oper} {d : Bool} {Q : Ex → G → Prop} {g : G} (h : Stop (SeqQ T P (.region n ops d) Q .normal g)) :
    SeqQ T P (.region n ops d) Q .normal g := h
end Go.Pk

namespace Go.Pk
section
variable {T : Nat → Option TI} {P : Program}
theorem stop_of2 (n : Nat) {ops : Array Oper} {d : Bool} {x y : Code} {Q : Ex → G → Prop} {g : G} (h : Stop (SeqQ T P (.seq (.seq (.region n ops d) x) y) Q .normal g)) :
    SeqQ T P (.seq (.seq (.region n ops d) x) y) Q .normal g := h
theorem stop_cut {x y : Code} {g : G} {Q : Ex → G → Prop} {τ : Type} (S : τ → G) (J : τ → Prop) (h1 : ∀ t, J t → awp T P y (S t) Q)
    (h2 : ∀ K : G → Prop, (∀ g t, Gh g (S t) → J t → K g) → awp T P x g (RndQ K Q)) : Stop (SeqQ T P (.seq x y) Q .normal g) :=
  stop_go (SeqQ_normal _ _ (awp_cut T P S J h1 h2))
end
end Go.Pk

namespace Go.Pk
theorem bytes_loop (b : ByteArray) : ∀ (n i : Nat) (r : List UInt8), b.size - i = n → ByteArray.toList.loop b i r = r.reverse ++ b.data.toList.drop i
  | 0, i, r, h => by
    have hl : b.data.toList.length = b.size := Array.length_toList
    rw [ByteArray.toList.loop.eq_1, if_neg (by omega), List.drop_of_length_le (by omega)]; simp
  | n + 1, i, r, h => by
    have hi : i < b.size := by omega
    rw [ByteArray.toList.loop.eq_1, if_pos hi, bytes_loop b n (i + 1) _ (by omega)]
    have hi' : i < b.data.toList.length := by
      have hl : b.data.toList.length = b.size := Array.length_toList
      omega
    rw [List.drop_eq_getElem_cons hi']
    have : b.get! i = b.data.toList[i] := by
      have h2 : i < b.data.size := hi
      show b.data[i]! = _
      rw [getElem!_pos b.data i h2, Array.getElem_toList]
    rw [this]; simp
theorem bytes_toList (b : ByteArray) : b.toList = b.data.toList := by
  unfold ByteArray.toList
  rw [bytes_loop b b.size 0 [] (by omega)]; simp
theorem Gh.nilG {v : List AV} {r : Rs} {i s sz : Nat} (hi : v[i]? = some (.one (.d (.v (.slice none 0 0))))) :
    Gh ⟨v, r⟩ ⟨v.set i (.one (.gap ⟨s, 1, nxt r s⟩ 0 0 0)), setR s ⟨nxt r s + 1, [none, some { e := nxt r s, var := false, fz := false, sz, cells := [] }]⟩ r⟩ := fun cx a w ⟨β, hh⟩ => by
  obtain ⟨β', q1, q2, q3⟩ := hh.fresh (w' := w) (d := s) (j0 := 1) (L := [none, some { e := nxt r s, var := false, fz := false, sz, cells := [] }]) (pl0 := ⟨none, 0⟩) rfl
    (fun j res hj => by
      match j with
      | 0 => simp at hj
      | 1 => rfl
      | j + 2 => simp at hj) rfl rfl (fun b o hb => by cases hb) (fun _ _ => rfl) (Nat.le_refl _)
    (fun β' hx hA => resOK_row (ds := []) rfl rfl rfl (by simp [RowM]))
  obtain ⟨u, g1, g2⟩ := hh.sl i _ hi
  have hu := (reA_val.1 g2).1
  subst hu
  refine ⟨β', { q1 with sz := by simpa using q1.sz, sl := fun j x hj => ?_ }⟩
  rw [List.getElem?_set] at hj
  split at hj
  · rename_i e
    subst e
    split at hj
    · cases hj
      refine ⟨_, g1, ?_⟩
      simp only [ReA, ReC]
      refine ⟨rfl, by rw [nxt_setR, if_pos rfl]; exact Nat.lt_succ_self _, Nat.le_refl _, none, rfl, fun res hr => ?_⟩
      obtain ⟨hl, _⟩ := lookR_of_getR hr
      rw [lookR_setR, if_pos rfl] at hl
      simp only [List.getElem?_cons_succ, List.getElem?_cons_zero, Option.some.injEq] at hl
      subst hl
      rw [q2]
      exact ⟨rfl, rfl, .inl trivial⟩
    · cases hj
  · exact q1.sl j x hj

end Go.Pk

