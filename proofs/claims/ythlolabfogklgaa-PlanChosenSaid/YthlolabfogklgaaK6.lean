/- The layer under the proof, part 6. No condition. -/
import Derived.Test.YthlolabfogklgaaK5
set_option linter.unusedVariables false
set_option linter.unusedSimpArgs false
set_option linter.unusedSectionVars false
/- A frame's state in plain form: what is dead is let go, epochs are counted anew. -/
namespace Go.Pk
set_option linter.unusedSimpArgs false
set_option linter.unusedVariables false

/-- The epoch of a handle, counted anew: slots of Z keep theirs. -/
def epZ (Z : List Nat) (s e : Nat) : Nat := if Z.contains s = true then e else 1

mutual
def canC (Z : List Nat) : C → C
  | .own h lo n => .own ⟨h.s, h.j, epZ Z h.s h.e⟩ lo n
  | .ptr h off => .ptr ⟨h.s, h.j, epZ Z h.s h.e⟩ off
  | .clos f caps => .clos f (canCs Z caps)
  | .d x => .d x
  | .lent n ds => .lent n ds
  | .elt ds => .elt ds
  | .ab => .ab
  | .dead => .dead
def canCs (Z : List Nat) : List C → List C
  | [] => []
  | c :: cs => canC Z c :: canCs Z cs
end

mutual
def canA (Z : List Nat) : AV → AV
  | .one x => .one (canC Z x)
  | .agg l => .agg (canCs Z l)
  | .tup l => .tup (canAs Z l)
  | .gd c x => .gd c (canA Z x)
def canAs (Z : List Nat) : List AV → List AV
  | [] => []
  | c :: cs => canA Z c :: canAs Z cs
end

def canRes (Z : List Nat) (s : Nat) (res : Res) : Res := if res.var = true then { res with e := epZ Z s res.e, cells := canCs Z res.cells } else { res with e := epZ Z s res.e }

def canRS (Z : List Nat) (s : Nat) (rs : RS) : RS := ⟨if Z.contains s = true then rs.next else 2, rs.l.map fun x => x.map (canRes Z s)⟩

def canR (Z : List Nat) : Rs → Rs
  | [] => []
  | (s, rs) :: l => (s, canRS Z s rs) :: canR Z l

/-- A handle is of the epoch that its memory has. -/
def curH (Z : List Nat) (r : Rs) (h : Hd) : Bool :=
  Z.contains h.s || match lookR r h.s h.j with
  | some res => res.e == h.e
  | none => true

mutual
def curC (Z : List Nat) (r : Rs) : C → Bool
  | .own h _ _ => curH Z r h
  | .ptr h _ => curH Z r h
  | .clos _ caps => curCs Z r caps
  | .d _ => true
  | .lent _ _ => true
  | .elt _ => true
  | .ab => true
  | .dead => true
def curCs (Z : List Nat) (r : Rs) : List C → Bool
  | [] => true
  | c :: cs => curC Z r c && curCs Z r cs
end

mutual
def curA (Z : List Nat) (r : Rs) : AV → Bool
  | .one x => curC Z r x
  | .agg l => curCs Z r l
  | .tup l => curAs Z r l
  | .gd _ x => curA Z r x
def curAs (Z : List Nat) (r : Rs) : List AV → Bool
  | [] => true
  | c :: cs => curA Z r c && curAs Z r cs
end

def curO (Z : List Nat) (r : Rs) : Option Res → Bool
  | some res => !res.var || curCs Z r res.cells
  | none => true

def curL (Z : List Nat) (r : Rs) : List (Option Res) → Bool
  | [] => true
  | x :: l => curO Z r x && curL Z r l

def curR (Z : List Nat) (r : Rs) : Rs → Bool
  | [] => true
  | (s, rs) :: l => curL Z r rs.l && curR Z r l

theorem find_can {Z : List Nat} : ∀ {r : Rs} {s : Nat}, findR s (canR Z r) = (findR s r).map (canRS Z s)
  | [], s => rfl
  | (t, rs) :: l, s => by
    simp only [canR, findR]
    by_cases h : t = s
    · subst h; rw [if_pos rfl, if_pos rfl]; rfl
    · rw [if_neg h, if_neg h, find_can]

theorem look_can {Z : List Nat} {r : Rs} {s j : Nat} : lookR (canR Z r) s j = (lookR r s j).map (canRes Z s) := by
  unfold lookR
  rw [find_can]
  cases findR s r with
  | none => rfl
  | some rs =>
    simp only [Option.map_some, canRS, List.getElem?_map]
    cases rs.l[j]? with
    | none => rfl
    | some x => cases x <;> rfl

theorem nxt_can {Z : List Nat} {r : Rs} {s : Nat} : nxt (canR Z r) s = if Z.contains s = true then nxt r s else (if (findR s r).isSome then 2 else 0) := by
  unfold nxt
  rw [find_can]
  cases findR s r with
  | none => simp
  | some rs => simp [canRS]

theorem canRes_fz {Z : List Nat} {s : Nat} {res : Res} : (canRes Z s res).fz = res.fz := by unfold canRes; split <;> rfl
theorem canRes_var {Z : List Nat} {s : Nat} {res : Res} : (canRes Z s res).var = res.var := by unfold canRes; split <;> rfl
theorem canRes_sz {Z : List Nat} {s : Nat} {res : Res} : (canRes Z s res).sz = res.sz := by unfold canRes; split <;> rfl
theorem canRes_bor {Z : List Nat} {s : Nat} {res : Res} : (canRes Z s res).bor = res.bor := by unfold canRes; split <;> rfl
theorem canRes_e {Z : List Nat} {s : Nat} {res : Res} : (canRes Z s res).e = epZ Z s res.e := by unfold canRes; split <;> rfl
theorem canCs_len {Z : List Nat} : ∀ {l : List C}, (canCs Z l).length = l.length
  | [] => rfl
  | x :: l => by simp only [canCs, List.length_cons, canCs_len]
theorem canRes_len {Z : List Nat} {s : Nat} {res : Res} : (canRes Z s res).cells.length = res.cells.length := by unfold canRes; split <;> simp [canCs_len]

section
variable {cx : Cx} {w : World} {r : Rs} {β : Nat → Nat → Pl} {Z : List Nat}

theorem ob_can {b : Nat} : OB (canR Z r) β b ↔ OB r β b := by
  constructor
  · rintro ⟨s, j, res, o, h1, h2, h3⟩
    rw [look_can] at h1
    cases hl : lookR r s j with
    | none => rw [hl] at h1; cases h1
    | some res0 =>
      rw [hl] at h1
      simp only [Option.map_some, Option.some.injEq] at h1
      subst h1
      exact ⟨s, j, res0, o, hl, by rwa [canRes_fz] at h2, h3⟩
  · rintro ⟨s, j, res, o, h1, h2, h3⟩
    exact ⟨s, j, canRes Z s res, o, by rw [look_can, h1]; rfl, by rw [canRes_fz]; exact h2, h3⟩

theorem av_can : Av cx (canR Z r) β = Av cx r β := by
  funext b
  simp only [Av, ob_can]

/-- A handle, counted anew: what it leads to was there. -/
theorem get_can {h : Hd} {res' : Res} (hc : curH Z r h = true) (hg : getR (canR Z r) ⟨h.s, h.j, epZ Z h.s h.e⟩ = some res') :
    ∃ res, getR r h = some res ∧ res' = canRes Z h.s res := by
  obtain ⟨h1, h2⟩ := lookR_of_getR hg
  rw [look_can] at h1
  simp only at h1 h2
  cases hl : lookR r h.s h.j with
  | none => rw [hl] at h1; cases h1
  | some res =>
    rw [hl] at h1
    simp only [Option.map_some, Option.some.injEq] at h1
    subst h1
    refine ⟨res, getR_of_lookR hl ?_, rfl⟩
    unfold curH at hc
    rw [canRes_e] at h2
    by_cases hz : Z.contains h.s = true
    · simp only [epZ, if_pos hz] at h2; exact h2
    · rw [hl] at hc
      simp only [hz, Bool.false_or, beq_iff_eq] at hc
      exact hc

theorem lt_can {h : Hd} (hlt : h.e < nxt r h.s) : epZ Z h.s h.e < nxt (canR Z r) h.s := by
  rw [nxt_can]
  unfold epZ
  split
  · exact hlt
  · have : (findR h.s r).isSome = true := by
      unfold nxt at hlt
      cases hf : findR h.s r with
      | none => rw [hf] at hlt; simp at hlt
      | some _ => rfl
    rw [if_pos this]
    decide

theorem own_can {pl : Pl} {s : Nat} {res : Res} {lo n : Nat} {u : Value} (h : OwnV pl res lo n u) : OwnV pl (canRes Z s res) lo n u :=
  h.same canRes_var canRes_sz canRes_len

mutual
theorem reC_can : ∀ {c : C} {u : Value}, curC Z r c = true → ReC cx w r β c u → ReC cx w (canR Z r) β (canC Z c) u
  | .d _, _, _, h => by simp only [canC, ReC, av_can] at h ⊢; exact h
  | .lent n ds, _, _, h => by simp only [canC, ReC, av_can] at h ⊢; exact h
  | .own hd lo n, u, hc, h => by
    simp only [canC, ReC, curC] at h hc ⊢
    obtain ⟨h1, h2, h3⟩ := h
    refine ⟨h1, lt_can h2, fun res' hr => ?_⟩
    obtain ⟨res, g1, rfl⟩ := get_can hc hr
    exact own_can (h3 res g1)
  | .ptr hd off, u, hc, h => by
    simp only [canC, ReC, curC] at h hc ⊢
    obtain ⟨h1, h2, h3⟩ := h
    refine ⟨h1, lt_can h2, fun res' hr => ?_⟩
    obtain ⟨res, g1, rfl⟩ := get_can hc hr
    exact h3 res g1
  | .elt ds, _, _, h => by simp only [canC, ReC, av_can] at h ⊢; exact h
  | .clos f caps, _, hc, h => by
    simp only [canC, ReC, curC] at h hc ⊢
    obtain ⟨us, h1, h2⟩ := h
    exact ⟨us, h1, reCs_can hc h2⟩
  | .ab, _, _, h => by simpa only [canC, ReC] using h
  | .dead, _, _, _ => by simp [canC, ReC]
theorem reCs_can : ∀ {c : List C} {u : List Value}, curCs Z r c = true → ReCs cx w r β c u → ReCs cx w (canR Z r) β (canCs Z c) u
  | [], _, _, h => by simpa [canCs, ReCs] using h
  | c :: cs, _, hc, h => by
    simp only [canCs, ReCs, curCs, Bool.and_eq_true] at h hc ⊢
    obtain ⟨u, us, h1, h2, h3⟩ := h
    exact ⟨u, us, h1, reC_can hc.1 h2, reCs_can hc.2 h3⟩
end

mutual
theorem reA_can : ∀ {c : AV} {u : Value}, curA Z r c = true → ReA cx w r β c u → ReA cx w (canR Z r) β (canA Z c) u
  | .one _, _, hc, h => by simp only [canA, ReA, curA] at h hc ⊢; exact reC_can hc h
  | .agg l, _, hc, h => by
    simp only [canA, ReA, curA] at h hc ⊢
    obtain ⟨us, h1, h2⟩ := h
    exact ⟨us, h1, reCs_can hc h2⟩
  | .tup l, _, hc, h => by
    simp only [canA, ReA, curA] at h hc ⊢
    obtain ⟨us, h1, h2⟩ := h
    exact ⟨us, h1, reAs_can hc h2⟩
  | .gd c y, _, hc, h => by
    simp only [canA, ReA, curA] at h hc ⊢
    exact ⟨fun he => reA_can hc (h.1 he), h.2⟩
theorem reAs_can : ∀ {c : List AV} {u : List Value}, curAs Z r c = true → ReAs cx w r β c u → ReAs cx w (canR Z r) β (canAs Z c) u
  | [], _, _, h => by simpa [canAs, ReAs] using h
  | c :: cs, _, hc, h => by
    simp only [canAs, ReAs, curAs, Bool.and_eq_true] at h hc ⊢
    obtain ⟨u, us, h1, h2, h3⟩ := h
    exact ⟨u, us, h1, reA_can hc.1 h2, reAs_can hc.2 h3⟩
end

theorem curL_get : ∀ {l : List (Option Res)} {j : Nat} {res : Res}, curL Z r l = true → l[j]? = some (some res) → curO Z r (some res) = true
  | [], _, _, _, h => by simp at h
  | x :: l, 0, res, h, hj => by
    simp only [List.getElem?_cons_zero, Option.some.injEq] at hj
    subst hj
    simp only [curL, Bool.and_eq_true] at h
    exact h.1
  | x :: l, j + 1, res, h, hj => by
    simp only [curL, Bool.and_eq_true] at h
    exact curL_get h.2 (by simpa using hj)

theorem curR_find : ∀ {l : Rs} {s : Nat} {rs : RS}, curR Z r l = true → findR s l = some rs → curL Z r rs.l = true
  | [], _, _, _, h => by simp [findR] at h
  | (t, rs') :: l, s, rs, h, hf => by
    simp only [curR, Bool.and_eq_true] at h
    simp only [findR] at hf
    split at hf
    · cases hf; exact h.1
    · exact curR_find h.2 hf

theorem resOK_can {pl : Pl} {s : Nat} {res : Res} (hc : curO Z r (some res) = true) (h : ResOK cx w r β pl res) : ResOK cx w (canR Z r) β pl (canRes Z s res) := by
  unfold ResOK at h ⊢
  rw [canRes_var]
  by_cases hv : res.var = true
  · rw [if_pos hv] at h ⊢
    simp only [curO, hv, Bool.not_true, Bool.false_or] at hc
    obtain ⟨h0, b, c, e, h1, h2, h3, h4⟩ := h
    exact ⟨by rw [canRes_fz]; exact h0, b, c, e, h1, h2, by unfold canRes; rw [if_pos hv]; exact reCs_can hc h3, h4⟩
  · rw [if_neg hv] at h ⊢
    obtain ⟨ds, h1, h2, h3⟩ := h
    refine ⟨ds, by unfold canRes; rw [if_neg hv]; exact h1, by rw [canRes_sz, av_can]; exact h2, ?_⟩
    rw [canRes_fz, av_can]
    exact h3
end

/-- Epochs counted anew. -/
theorem Gh.can (Z : List Nat) {v : List AV} {r : Rs} (hv : curAs Z r v = true) (hr : curR Z r r = true) : Gh ⟨v, r⟩ ⟨canAs Z v, canR Z r⟩ := fun cx a w ⟨β, hh⟩ => by
  have hlk : ∀ {s j : Nat} {res : Res}, lookR (canR Z r) s j = some res → ∃ res0, lookR r s j = some res0 ∧ res = canRes Z s res0 := fun {s j res} hl => by
    rw [look_can] at hl
    cases h0 : lookR r s j with
    | none => rw [h0] at hl; cases hl
    | some res0 => rw [h0] at hl; simp only [Option.map_some, Option.some.injEq] at hl; exact ⟨res0, rfl, hl.symm⟩
  have hO : ∀ {s j : Nat} {res : Res}, lookR r s j = some res → curO Z r (some res) = true := fun {s j res} hl => by
    unfold lookR at hl
    split at hl
    · rename_i rs hf
      split at hl
      · rename_i res' hj
        cases hl
        exact curL_get (curR_find hr hf) hj
      · cases hl
    · cases hl
  have hlen : ∀ (l : List AV), (canAs Z l).length = l.length := fun l => by induction l with
    | nil => rfl
    | cons x l ih => simp only [canAs, List.length_cons, ih]
  have hget : ∀ (l : List AV) (i : Nat) (y : AV), curAs Z r l = true → (canAs Z l)[i]? = some y → ∃ x, l[i]? = some x ∧ y = canA Z x ∧ curA Z r x = true := fun l => by
    induction l with
    | nil => intro i y _ h; simp [canAs] at h
    | cons x l ih =>
      intro i y hc h
      simp only [curAs, Bool.and_eq_true] at hc
      cases i with
      | zero => simp only [canAs, List.getElem?_cons_zero, Option.some.injEq] at h; exact ⟨x, rfl, h.symm, hc.1⟩
      | succ i => simpa using ih i y hc.2 (by simpa [canAs] using h)
  refine ⟨β, ?_⟩
  refine { sz := by rw [hh.sz]; exact (hlen v).symm, df := hh.df, sl := fun i y hi => ?_, rs := fun s j res hl => ?_, inj := fun s j res s' j' res' b o o' h1 f1 h2 f2 hb1 hb2 => ?_,
           fr := fun s j res b o hl hf hb => ?_, n0 := hh.n0, old := hh.old, a0 := hh.a0, bor := hh.bor, ob := fun p b hm => ?_, rw := fun p n u hm => ?_, os := hh.os, out := hh.out }
  · obtain ⟨x, h1, rfl, h3⟩ := hget v i y hv hi
    obtain ⟨u, g1, g2⟩ := hh.sl i x h1
    exact ⟨u, g1, reA_can h3 g2⟩
  · obtain ⟨res0, h0, rfl⟩ := hlk hl
    obtain ⟨g1, g2⟩ := hh.rs s j res0 h0
    refine ⟨resOK_can (hO h0) g1, ?_⟩
    rw [canRes_e]
    exact lt_can (h := ⟨s, j, res0.e⟩) g2
  · obtain ⟨r1, e1, rfl⟩ := hlk h1
    obtain ⟨r2, e2, rfl⟩ := hlk h2
    exact hh.inj _ _ _ _ _ _ _ _ _ e1 (by rwa [canRes_fz] at f1) e2 (by rwa [canRes_fz] at f2) hb1 hb2
  · obtain ⟨r1, e1, rfl⟩ := hlk hl
    rw [canRes_fz] at hf
    rw [canRes_bor]
    exact hh.fr _ _ _ _ _ e1 hf hb
  · obtain ⟨h1, h2⟩ := hh.ob p b hm
    refine ⟨?_, fun res hg => ?_⟩
    · rw [nxt_can]
      split
      · exact h1
      · have : (findR p r).isSome = true := by
          unfold nxt at h1
          cases hf : findR p r with
          | none => rw [hf] at h1; simp at h1
          | some _ => rfl
        rw [if_pos this]
        decide
    · obtain ⟨e1, e2⟩ := lookR_of_getR hg
      obtain ⟨r1, e3, rfl⟩ := hlk e1
      rw [canRes_e] at e2
      simp only at e2
      unfold epZ at e2
      split at e2
      · exact h2 r1 (getR_of_lookR e3 e2)
      · simp at e2
  · have := hh.rw p n u hm
    simp only [ReC] at this ⊢
    obtain ⟨h1, h2, h3⟩ := this
    refine ⟨h1, ?_, fun res hg => ?_⟩
    · rw [nxt_can]
      split
      · exact h2
      · have : (findR p r).isSome = true := by
          unfold nxt at h2
          cases hf : findR p r with
          | none => rw [hf] at h2; simp at h2
          | some _ => rfl
        rw [if_pos this]
        decide
    · obtain ⟨e1, e2⟩ := lookR_of_getR hg
      obtain ⟨r1, e3, rfl⟩ := hlk e1
      rw [canRes_e] at e2
      simp only at e2
      unfold epZ at e2
      split at e2
      · exact own_can (h3 r1 (getR_of_lookR e3 e2))
      · simp at e2

/-- What is read of slots: dead ones may be dead, handles are counted anew. -/
def fgc (Z : List Nat) (r : Rs) : List AV → List AV → Prop
  | [], [] => True
  | x :: xs, y :: ys => (y = .one .dead ∨ (curA Z r x = true ∧ canA Z x = y)) ∧ fgc Z r xs ys
  | _, _ => False

theorem fgc_nil {Z : List Nat} {r : Rs} : fgc Z r [] [] = True := rfl
theorem fgc_dead {Z : List Nat} {r : Rs} {x : AV} {xs ys : List AV} : fgc Z r (x :: xs) (.one .dead :: ys) = fgc Z r xs ys := by simp [fgc]
theorem fgc_d {Z : List Nat} {r : Rs} {x : D} {xs ys : List AV} : fgc Z r (.one (.d x) :: xs) (.one (.d x) :: ys) = fgc Z r xs ys := by simp [fgc, canA, canC, curA, curC]
theorem fgc_dv {Z : List Nat} {r : Rs} {x y : D} {xs ys : List AV} : fgc Z r (.one (.d x) :: xs) (.one (.d y) :: ys) = (x = y ∧ fgc Z r xs ys) := by simp [fgc, canA, canC, curA, curC]
theorem fgc_lent {Z : List Nat} {r : Rs} {n : Nat} {x : List D} {xs ys : List AV} : fgc Z r (.one (.lent n x) :: xs) (.one (.lent n x) :: ys) = fgc Z r xs ys := by simp [fgc, canA, canC, curA, curC]
theorem fgc_ptr {Z : List Nat} {r : Rs} {h h' : Hd} {o : Nat} {xs ys : List AV} : fgc Z r (.one (.ptr h o) :: xs) (.one (.ptr h' o) :: ys) = ((curH Z r h = true ∧ (⟨h.s, h.j, epZ Z h.s h.e⟩ : Hd) = h') ∧ fgc Z r xs ys) := by simp [fgc, canA, canC, curA, curC]
theorem fgc_own {Z : List Nat} {r : Rs} {h h' : Hd} {o n m : Nat} {xs ys : List AV} : fgc Z r (.one (.own h o n) :: xs) (.one (.own h' o m) :: ys) = ((curH Z r h = true ∧ (⟨h.s, h.j, epZ Z h.s h.e⟩ : Hd) = h' ∧ n = m) ∧ fgc Z r xs ys) := by simp [fgc, canA, canC, curA, curC]
theorem fgc_cons {Z : List Nat} {r : Rs} {x y : AV} {xs ys : List AV} (h1 : curA Z r x = true) (h2 : canA Z x = y) : fgc Z r (x :: xs) (y :: ys) = fgc Z r xs ys := by
  simp [fgc, h1, h2]

theorem fgc_mid {Z : List Nat} {r : Rs} : ∀ {v v' : List AV}, fgc Z r v v' → ∃ v1, fgt v v1 ∧ curAs Z r v1 = true ∧ canAs Z v1 = v'
  | [], [], _ => ⟨[], trivial, rfl, rfl⟩
  | x :: xs, y :: ys, h => by
    obtain ⟨h1, h2⟩ := h
    obtain ⟨v1, g1, g2, g3⟩ := fgc_mid h2
    rcases h1 with rfl | ⟨h1, rfl⟩
    · exact ⟨.one .dead :: v1, ⟨.inl rfl, g1⟩, by simp [curAs, curA, curC, g2], by simp [canAs, canA, canC, g3]⟩
    · exact ⟨x :: v1, ⟨.inr rfl, g1⟩, by simp [curAs, h1, g2], by simp [canAs, g3]⟩
  | [], _ :: _, h => h.elim
  | _ :: _, [], h => h.elim

/-- The plain form of a state: of the memory what was born at some slots alone is kept. -/
theorem Gh.canon (keep adds Z : List Nat) {v v' : List AV} {r r' : Rs} (h : fgc Z (dropAll keep r ++ adds.map fun s => (s, (⟨0, []⟩ : RS))) v v')
    (hc : curR Z (dropAll keep r ++ adds.map fun s => (s, (⟨0, []⟩ : RS))) (dropAll keep r ++ adds.map fun s => (s, (⟨0, []⟩ : RS))) = true)
    (hr : canR Z (dropAll keep r ++ adds.map fun s => (s, (⟨0, []⟩ : RS))) = r') : Gh ⟨v, r⟩ ⟨v', r'⟩ := by
  obtain ⟨v1, h1, h2, h3⟩ := fgc_mid h
  subst hr h3
  exact (Gh.keep keep adds h1 rfl).trans (Gh.can Z h2 hc)
end Go.Pk

/- A nil slice in a variable's cell as an empty row of the frame's own. -/
namespace Go.Pk
set_option linter.unusedSimpArgs false
set_option linter.unusedVariables false

/-- The state behind it. -/
def nilFR (r : Rs) (s k sz : Nat) : Rs :=
  match findR s r with
  | some rs => (match rs.l[0]? with
    | some (some V) => setR s ⟨rs.next + 1, (rs.l.set (k + 1) (some { e := rs.next, var := false, fz := false, sz, cells := [] })).set 0 (some { V with cells := V.cells.set k (.own ⟨s, k + 1, rs.next⟩ 0 0) })⟩ r
    | _ => r)
  | none => r

def isNilC : Option C → Bool
  | some (.d (.v (.slice none 0 0))) => true
  | _ => false

def nilFOK (r : Rs) (s k : Nat) : Bool :=
  match findR s r with
  | some rs => (match rs.l[0]?, rs.l[k + 1]? with
    | some (some V), some none => V.var && isNilC V.cells[k]?
    | _, _ => false)
  | none => false

theorem isNilC_eq {x : Option C} (h : isNilC x = true) : x = some (.d (.v (.slice none 0 0))) := by
  unfold isNilC at h
  split at h
  · rfl
  · cases h

theorem Gh.nilF {v : List AV} {r : Rs} (s k sz : Nat) (hok : nilFOK r s k = true) : Gh ⟨v, r⟩ ⟨v, nilFR r s k sz⟩ := fun cx a w ⟨β, hh⟩ => by
  unfold nilFOK at hok
  unfold nilFR
  cases hf : findR s r with
  | none => rw [hf] at hok; cases hok
  | some rs =>
    rw [hf] at hok
    simp only at hok ⊢
    split at hok
    case h_2 => cases hok
    case h_1 V h0 hk =>
      simp only [Bool.and_eq_true] at hok
      obtain ⟨hv, hn⟩ := hok
      have hn := isNilC_eq hn
      simp only [h0]
      have hnx : nxt r s = rs.next := by unfold nxt; rw [hf]
      have hklt : k + 1 < rs.l.length := (List.getElem?_eq_some_iff.1 hk).1
      let row : Res := { e := rs.next, var := false, fz := false, sz, cells := [] }
      let r1 : Rs := setR s ⟨rs.next + 1, rs.l.set (k + 1) (some row)⟩ r
      let β' : Nat → Nat → Pl := fun s' j' => if s' = s ∧ j' = k + 1 then ⟨none, 0⟩ else β s' j'
      have hβ0 : β' s (k + 1) = ⟨none, 0⟩ := by simp [β']
      have hβ1 : ∀ s' j', ¬ (s' = s ∧ j' = k + 1) → β' s' j' = β s' j' := fun s' j' hn => by simp [β', hn]
      have hl : ∀ s' j' res, lookR r1 s' j' = some res → (s' = s ∧ j' = k + 1 ∧ res = row) ∨ (¬ (s' = s ∧ j' = k + 1) ∧ lookR r s' j' = some res) := fun s' j' res hl => by
        simp only [r1] at hl
        rw [lookR_setR] at hl
        by_cases hs : s = s'
        · subst hs
          rw [if_pos rfl] at hl
          simp only [List.getElem?_set] at hl
          by_cases hj : k + 1 = j'
          · subst hj
            rw [if_pos rfl, if_pos hklt] at hl
            simp only [Option.some.injEq] at hl
            exact .inl ⟨rfl, rfl, hl.symm⟩
          · rw [if_neg hj] at hl
            refine .inr ⟨fun h => hj h.2.symm, ?_⟩
            unfold lookR
            rw [hf]
            exact hl
        · rw [if_neg hs] at hl
          exact .inr ⟨fun h => hs h.1.symm, hl⟩
      have hx : Ext cx w r β w r1 β' := by
        refine ⟨fun t => ?_, fun hd res' hlt hg => ?_, ⟨fun _ _ _ => rfl, fun b _ hA => ?_⟩, fun _ _ _ => rfl, rfl, rfl⟩
        · simp only [r1]
          rw [nxt_setR]
          split
          · rename_i e; subst e; rw [hnx]; exact Nat.le_succ _
          · exact Nat.le_refl _
        · obtain ⟨e1, e2⟩ := lookR_of_getR hg
          rcases hl _ _ _ e1 with ⟨q1, q2, q3⟩ | ⟨q1, q2⟩
          · subst q3
            rw [q1, hnx] at hlt
            simp only [row] at e2
            omega
          · exact ⟨res', getR_of_lookR q2 e2, hβ1 _ _ q1, rfl, rfl, rfl⟩
        · rcases hA with hA | ⟨t, j, res, o, e1, e2, e3⟩
          · exact .inl hA
          · rcases hl _ _ _ e1 with ⟨q1, q2, q3⟩ | ⟨q1, q2⟩
            · rw [q1, q2, hβ0] at e3; cases e3
            · rw [hβ1 _ _ q1] at e3
              exact .inr ⟨t, j, res, o, q2, e2, e3⟩
      have h1 : Holds cx ⟨v, r1⟩ a w β' := hh.mk' hx (fun t j res e1 => by
          rcases hl _ _ _ e1 with ⟨q1, q2, q3⟩ | ⟨q1, q2⟩
          · subst q1; subst q2; subst q3
            rw [hβ0]
            refine ⟨resOK_row (ds := []) rfl rfl rfl (by simp [RowM]), ?_⟩
            simp only [r1]
            rw [nxt_setR, if_pos rfl]
            exact Nat.lt_succ_self _
          · obtain ⟨g1, g2⟩ := hh.rs _ _ _ q2
            rw [hβ1 _ _ q1]
            exact ⟨g1.ext hx (fun _ _ _ => rfl) (fun b o hb => g1.lt hb), Nat.lt_of_lt_of_le g2 (hx.nx t)⟩)
        (fun t j res t' j' res' b o o' e1 f1 e2 f2 b1 b2 => by
          rcases hl _ _ _ e1 with ⟨q1, q2, q3⟩ | ⟨q1, q2⟩
          · rw [q1, q2, hβ0] at b1; cases b1
          · rcases hl _ _ _ e2 with ⟨p1, p2, p3⟩ | ⟨p1, p2⟩
            · rw [p1, p2, hβ0] at b2; cases b2
            · rw [hβ1 _ _ q1] at b1
              rw [hβ1 _ _ p1] at b2
              exact hh.inj _ _ _ _ _ _ _ _ _ q2 f1 p2 f2 b1 b2)
        (fun t j res b o e1 f1 b1 => by
          rcases hl _ _ _ e1 with ⟨q1, q2, q3⟩ | ⟨q1, q2⟩
          · rw [q1, q2, hβ0] at b1; cases b1
          · rw [hβ1 _ _ q1] at b1
            exact hh.fr _ _ _ _ _ q2 f1 b1) (Nat.le_refl _)
      have hlk0 : lookR r s 0 = some V := by unfold lookR; simp only [hf, h0]
      have hok0 := (hh.rs _ _ _ hlk0).1
      unfold ResOK at hok0
      rw [if_pos hv] at hok0
      obtain ⟨p0, b, arr, e, p1, p2, p3, p4⟩ := hok0
      obtain ⟨u, hu1, hu2⟩ := reCs_get p3 hn
      have hu := (reC_val.1 hu2).1
      subst hu
      have hfr : findR s r1 = some ⟨rs.next + 1, rs.l.set (k + 1) (some row)⟩ := by simp only [r1]; rw [findR_setR, if_pos rfl]
      obtain ⟨β2, t1, t2, t3⟩ := h1.recell (next' := rs.next + 1) (x := .own ⟨s, k + 1, rs.next⟩ 0 0) (V := V) (k := k) (b := b) (cs := arr) (e := e) (u := .slice none 0 0) hfr
        (by simp only [List.getElem?_set_ne (show k + 1 ≠ 0 by omega), h0]) hv (by rw [hβ1 s 0 (by omega)]; exact p1) p2 (by simpa using hu1) (by
          simp only [ReC]
          refine ⟨rfl, ?_, fun res hr => ?_⟩
          · simp only [r1]
            rw [nxt_setR, if_pos rfl]
            exact Nat.lt_succ_self _
          · obtain ⟨e1, e2⟩ := lookR_of_getR hr
            rcases hl _ _ _ e1 with ⟨q1, q2, q3⟩ | ⟨q1, q2⟩
            · subst q3
              rw [hβ0]
              exact ⟨rfl, by simp, Nat.le_refl _, none, rfl, .inl rfl⟩
            · exact absurd ⟨rfl, rfl⟩ q1) (Nat.le_refl _)
      refine ⟨β2, t1.congr fun t => ?_⟩
      simp only [r1]
      rw [findR_setR, findR_setR, findR_setR]
      split
      · rfl
      · rfl
end Go.Pk

/- A row of the frame's own in a variable's cell, frozen: from there on it is data. -/
namespace Go.Pk
set_option linter.unusedSimpArgs false
set_option linter.unusedVariables false

/-- The state behind it; the datum may be told in other words. -/
def sealFR (r : Rs) (s k : Nat) (x : C) : Rs :=
  match sealC r x with
  | some (d, r') => (match findR s r' with
    | some rs => (match rs.l[0]? with
      | some (some V) => setR s ⟨rs.next, rs.l.set 0 (some { V with cells := V.cells.set k (.d d) })⟩ r'
      | _ => r)
    | none => r)
  | none => r

def sealFOK (r : Rs) (s k : Nat) (x : C) : Prop :=
  match sealC r x with
  | some (_, r') => (match findR s r' with
    | some rs => (match rs.l[0]? with
      | some (some V) => V.var = true ∧ V.cells[k]? = some x
      | _ => False)
    | none => False)
  | none => False

theorem Gh.sealF {v : List AV} {r : Rs} (s k : Nat) (x : C) (hok : sealFOK r s k x) : Gh ⟨v, r⟩ ⟨v, sealFR r s k x⟩ := fun cx a w ⟨β, hh⟩ => by
  unfold sealFOK at hok
  unfold sealFR
  cases hs : sealC r x with
  | none => rw [hs] at hok; exact hok.elim
  | some p =>
    obtain ⟨d, r'⟩ := p
    rw [hs] at hok
    simp only at hok ⊢
    cases hf : findR s r' with
    | none => rw [hf] at hok; exact hok.elim
    | some rs =>
      rw [hf] at hok
      simp only at hok ⊢
      split at hok
      case h_2 => exact hok.elim
      case h_1 V h0 =>
        obtain ⟨hv, hk⟩ := hok
        try simp only [h0]
        have hlk' : lookR r' s 0 = some V := by unfold lookR; simp only [hf, h0]
        have hlk : ∃ V0, lookR r s 0 = some V0 ∧ V0.var = true ∧ V0.cells = V.cells ∧ V0.e = V.e := by
          have hlk2 := hlk'
          unfold sealC at hs
          split at hs
          · cases hs; exact ⟨V, hlk', hv, rfl, rfl⟩
          · rename_i hd lo n
            split at hs
            · rename_i res rs0 g1 g2
              split at hs
              · cases hs
              · split at hs
                · cases hs
                  rw [lookR_setR] at hlk2
                  by_cases hss : hd.s = s
                  · rw [if_pos hss] at hlk2
                    simp only [List.getElem?_set] at hlk2
                    by_cases hj : hd.j = 0
                    · rw [if_pos hj] at hlk2
                      obtain ⟨e1, e2⟩ := lookR_of_getR g1
                      have e3 := lookR_parts e1 g2
                      have hlt : hd.j < rs0.l.length := (List.getElem?_eq_some_iff.1 e3).1
                      rw [if_pos (by omega)] at hlk2
                      simp only [Option.some.injEq] at hlk2
                      refine ⟨res, by rw [← hss, ← hj]; exact e1, by rw [← hlk2] at hv; exact hv, by rw [← hlk2], by rw [← hlk2]⟩
                    · rw [if_neg hj] at hlk2
                      refine ⟨V, ?_, hv, rfl, rfl⟩
                      unfold lookR
                      rw [← hss, g2]
                      exact hlk2
                  · rw [if_neg hss] at hlk2
                    exact ⟨V, hlk2, hv, rfl, rfl⟩
                · cases hs
            · cases hs
          · cases hs
        obtain ⟨V0, q1, q2, q3, q4⟩ := hlk
        obtain ⟨hok0, hlt0⟩ := hh.rs _ _ _ q1
        unfold ResOK at hok0
        rw [if_pos q2] at hok0
        obtain ⟨p0, b, arr, e, p1, p2, p3, p4⟩ := hok0
        rw [q3] at p3
        obtain ⟨u, hu1, hu2⟩ := reCs_get p3 hk
        obtain ⟨β1, h1, x1, hd1⟩ := seal1_ok hh hs hu2
        obtain ⟨_, _, hβ, _⟩ := x1.old ⟨s, 0, V.e⟩ V (by rw [← q4]; exact hlt0) (getR_of_lookR hlk' rfl)
        obtain ⟨β2, t1, t2, t3⟩ := h1.recell (next' := rs.next) (x := .d d) (V := V) (k := k) (b := b) (cs := arr) (e := e) (u := u) hf h0 hv (by
          rw [show β1 s 0 = β s 0 from hβ]; exact p1) p2 (by simpa using hu1) (by simp only [ReC]; exact hd1) (Nat.le_refl _)
        exact ⟨β2, t1⟩
end Go.Pk

/- The program's data, as this proof types them. -/
namespace Go.Pk

abbrev iD (n : Int) : D := .v (.int .i64 n)
abbrev uD (n : Int) : D := .v (.int .u8 n)
abbrev bD (b : Bool) : D := .v (.bool b)
abbrev sD (s : ByteArray) : D := .v (.string s)
abbrev di (n : Int) : C := .d (.v (.int .i64 n))
abbrev db (n : Bool) : C := .d (.v (.bool n))
abbrev dS (s : ByteArray) : C := .d (.v (.string s))
abbrev ai (n : Int) : AV := .one (.d (.v (.int .i64 n)))
abbrev au (n : Int) : AV := .one (.d (.v (.int .u8 n)))
abbrev ast (s : ByteArray) : AV := .one (.d (.v (.string s)))
abbrev ab (b : Bool) : AV := .one (.d (.v (.bool b)))
abbrev rb (b : Bool) : RF := .one (.d (.v (.bool b)))
abbrev ri (n : Int) : RF := .one (.d (.v (.int .i64 n)))
abbrev dd : AV := .one .dead
abbrev anil : AV := .one (.d (.v (.slice none 0 0)))
abbrev al (n : Nat) (ds : List D) : AV := .one (.lent n ds)
abbrev High : Int := 2305843009213693952

/-- An int of 64 bits. -/
def i64 (n : Int) : Prop := -9223372036854775808 ≤ n ∧ n < 9223372036854775808

structure Req where
  client : Int
  seq : Int
  kind : Int
  session : Int
  name : ByteArray
abbrev Req.enc (r : Req) : List D := [iD r.client, iD r.seq, iD r.kind, iD r.session, sD r.name]
def Req.ok (r : Req) : Prop := i64 r.client ∧ i64 r.seq ∧ i64 r.kind ∧ i64 r.session ∧ r.name.size < 2 ^ 62

structure Tip where
  view : Int
  slot : Int
  deriving DecidableEq

structure Batch where
  fill : Bool
  view : Int
  tip : Tip
  time : Int
  reqs : List Req
abbrev reqsE (l : List Req) : List D := l.flatMap Req.enc
abbrev Batch.enc (b : Batch) : List D := [bD b.fill, iD b.view, iD b.tip.view, iD b.tip.slot, iD b.time, .sl b.reqs.length (reqsE b.reqs)]
abbrev Batch.lent (b : Batch) : List C := [db b.fill, di b.view, di b.tip.view, di b.tip.slot, di b.time, .lent b.reqs.length (reqsE b.reqs)]
def Batch.ok (b : Batch) : Prop := i64 b.view ∧ i64 b.tip.view ∧ i64 b.tip.slot ∧ i64 b.time ∧ b.reqs.length < 2 ^ 42 ∧ ∀ r ∈ b.reqs, r.ok

structure Vote where
  slot : Int
  ballot : Int
  batch : Batch
abbrev Vote.enc (v : Vote) : List D := iD v.slot :: iD v.ballot :: v.batch.enc
def Vote.ok (v : Vote) : Prop := i64 v.slot ∧ i64 v.ballot ∧ v.batch.ok

structure Prom where
  src : Int
  done : Int
  tip : Tip
  time : Int
  votes : List Vote
abbrev votesE (l : List Vote) : List D := l.flatMap Vote.enc
abbrev Prom.enc (p : Prom) : List D := [iD p.src, iD p.done, iD p.tip.view, iD p.tip.slot, iD p.time, .sl p.votes.length (votesE p.votes)]
abbrev Prom.lent (p : Prom) : List C := [di p.src, di p.done, di p.tip.view, di p.tip.slot, di p.time, .lent p.votes.length (votesE p.votes)]
def Prom.ok (p : Prom) : Prop := i64 p.src ∧ i64 p.done ∧ i64 p.tip.view ∧ i64 p.tip.slot ∧ i64 p.time ∧ p.votes.length < 2 ^ 42 ∧ ∀ v ∈ p.votes, v.ok
abbrev promisesE (l : List Prom) : List D := l.flatMap Prom.enc
abbrev batchesE (l : List Batch) : List D := l.flatMap Batch.enc

theorem reqs_at {l : List Req} {i : Nat} (hi : i < l.length) : (reqsE l).drop (i * 5) = l[i].enc ++ (reqsE (l.drop (i + 1))) := drop_enc _ 5 l i hi fun _ => rfl
theorem votes_at {l : List Vote} {i : Nat} (hi : i < l.length) : (votesE l).drop (i * 8) = l[i].enc ++ (votesE (l.drop (i + 1))) := drop_enc _ 8 l i hi fun _ => rfl
theorem promises_at {l : List Prom} {i : Nat} (hi : i < l.length) : (promisesE l).drop (i * 6) = l[i].enc ++ (promisesE (l.drop (i + 1))) := drop_enc _ 6 l i hi fun _ => rfl
theorem batches_at {l : List Batch} {i : Nat} (hi : i < l.length) : (batchesE l).drop (i * 6) = l[i].enc ++ (batchesE (l.drop (i + 1))) := drop_enc _ 6 l i hi fun _ => rfl
theorem reqs_len {l : List Req} : (reqsE l).length = l.length * 5 := len_enc _ 5 (fun _ => rfl) l
theorem votes_len {l : List Vote} : (votesE l).length = l.length * 8 := len_enc _ 8 (fun _ => rfl) l
theorem promises_len {l : List Prom} : (promisesE l).length = l.length * 6 := len_enc _ 6 (fun _ => rfl) l
theorem batches_len {l : List Batch} : (batchesE l).length = l.length * 6 := len_enc _ 6 (fun _ => rfl) l

end Go.Pk

/- Small facts for use. -/
namespace Go.Pk
theorem sub0 {n : Nat} : sub 0 0 n [] = [] := by simp [sub]
theorem sub1_1 {x0 : C} : sub 0 1 1 [x0] = [x0] := rfl
theorem sub1_2 {x0 x1 : C} : sub 0 1 2 [x0, x1] = [x0, x1] := rfl
theorem sub1_3 {x0 x1 x2 : C} : sub 0 1 3 [x0, x1, x2] = [x0, x1, x2] := rfl
theorem sub1_4 {x0 x1 x2 x3 : C} : sub 0 1 4 [x0, x1, x2, x3] = [x0, x1, x2, x3] := rfl
theorem sub1_5 {x0 x1 x2 x3 x4 : C} : sub 0 1 5 [x0, x1, x2, x3, x4] = [x0, x1, x2, x3, x4] := rfl
theorem sub1_6 {x0 x1 x2 x3 x4 x5 : C} : sub 0 1 6 [x0, x1, x2, x3, x4, x5] = [x0, x1, x2, x3, x4, x5] := rfl
theorem sub1_7 {x0 x1 x2 x3 x4 x5 x6 : C} : sub 0 1 7 [x0, x1, x2, x3, x4, x5, x6] = [x0, x1, x2, x3, x4, x5, x6] := rfl
theorem sub1_8 {x0 x1 x2 x3 x4 x5 x6 x7 : C} : sub 0 1 8 [x0, x1, x2, x3, x4, x5, x6, x7] = [x0, x1, x2, x3, x4, x5, x6, x7] := rfl
theorem sub1_9 {x0 x1 x2 x3 x4 x5 x6 x7 x8 : C} : sub 0 1 9 [x0, x1, x2, x3, x4, x5, x6, x7, x8] = [x0, x1, x2, x3, x4, x5, x6, x7, x8] := rfl
theorem sub1_10 {x0 x1 x2 x3 x4 x5 x6 x7 x8 x9 : C} : sub 0 1 10 [x0, x1, x2, x3, x4, x5, x6, x7, x8, x9] = [x0, x1, x2, x3, x4, x5, x6, x7, x8, x9] := rfl
theorem sub1_11 {x0 x1 x2 x3 x4 x5 x6 x7 x8 x9 x10 : C} : sub 0 1 11 [x0, x1, x2, x3, x4, x5, x6, x7, x8, x9, x10] = [x0, x1, x2, x3, x4, x5, x6, x7, x8, x9, x10] := rfl
theorem sub1_12 {x0 x1 x2 x3 x4 x5 x6 x7 x8 x9 x10 x11 : C} : sub 0 1 12 [x0, x1, x2, x3, x4, x5, x6, x7, x8, x9, x10, x11] = [x0, x1, x2, x3, x4, x5, x6, x7, x8, x9, x10, x11] := rfl
theorem reqsE_snoc {l : List Req} {r : Req} : reqsE (l ++ [r]) = reqsE l ++ r.enc := by simp [reqsE]
theorem votesE_snoc {l : List Vote} {r : Vote} : votesE (l ++ [r]) = votesE l ++ r.enc := by simp [votesE]
theorem promisesE_snoc {l : List Prom} {r : Prom} : promisesE (l ++ [r]) = promisesE l ++ r.enc := by simp [promisesE]
theorem take_enc {α β : Type} (enc : α → List β) (sz : Nat) (h : ∀ x, (enc x).length = sz) (l : List α) : (l.flatMap enc).take (l.length * sz) = l.flatMap enc := List.take_of_length_le (Nat.le_of_eq (len_enc enc sz h l))
theorem reqs_take {l : List Req} : (reqsE l).take (l.length * 5) = reqsE l := take_enc Req.enc 5 (fun _ => rfl) l
theorem votes_take {l : List Vote} : (votesE l).take (l.length * 8) = votesE l := take_enc Vote.enc 8 (fun _ => rfl) l
theorem promises_take {l : List Prom} : (promisesE l).take (l.length * 6) = promisesE l := take_enc Prom.enc 6 (fun _ => rfl) l
theorem batches_take {l : List Batch} : (batchesE l).take (l.length * 6) = batchesE l := take_enc Batch.enc 6 (fun _ => rfl) l
section
variable {T : Nat → Option TI} {P : Program}
theorem CondR_tt {x y : Code} {g : G} {Q : Ex → G → Prop} (h : awp T P x g Q) : CondR T P (.one (.d (.v (.bool true)))) True x y g Q := ⟨trivial, fun _ => h, fun h => (by cases h)⟩
theorem CondR_ff {x y : Code} {g : G} {Q : Ex → G → Prop} (h : awp T P y g Q) : CondR T P (.one (.d (.v (.bool false)))) True x y g Q := ⟨trivial, fun h => (by cases h), fun _ => h⟩
end
end Go.Pk

