import Derived.Test.YtniafckaafcpbaaK4
import Derived.Orders
set_option linter.unusedVariables false
set_option linter.unusedSimpArgs false
set_option linter.unusedSectionVars false
namespace Go.Pk
set_option linter.unusedSimpArgs false
section
variable {v v' : List AV} {r r' r0 r0' : Rs} {T : Nat → Option TI} {c : Bool}
theorem zgj {s : Nat} (h : findR s r' = findR s r) : ∀ {xs : List C}, lend0s r' s xs = lend0s r s xs
  | [] => rfl
  | x :: xs => by
    have e : lend0 r' s x = lend0 r s x := by
      unfold lend0
      split
      · rfl
      · rfl
      · split
        · rename_i hd lo n e
          rw [zdn (r := r) (r' := r') (x := .own hd lo n) (by simp [slotsC, e, h])]
        · rfl
      · rfl
    simp only [lend0s]
    rw [e, zgj h]
mutual
theorem zhO : ∀ {x : C}, (∀ s ∈ slotsC x, findR s r' = findR s r) → lendC r' x = lendC r x
  | .d _, _ => by simp only [lendC]
  | .lent _ _, _ => by simp only [lendC]
  | .elt _, _ => by simp only [lendC]
  | .ab, _ => by simp only [lendC]
  | .dead, _ => by simp only [lendC]
  | .eltR cs, h => by simp only [lendC]; rw [zb6 (by simpa [slotsC] using h)]
  | .gap hd lo n k, h => by simp only [lendC]; rw [zdn h]
  | .own hd lo n, h => by simp only [lendC]; rw [zdn h]
  | .ptr hd off, h => by
    simp only [lendC]
    rw [zbh (h hd.s (by simp [slotsC]))]
    cases getR r hd with
    | none => rfl
    | some res => simp only; rw [zgj (h hd.s (by simp [slotsC]))]
  | .clos f caps, h => by simp only [lendC]; rw [zb6 (by simpa [slotsC] using h)]
theorem zb6 : ∀ {xs : List C}, (∀ s ∈ slotsCs xs, findR s r' = findR s r) → lendC.lendCs r' xs = lendC.lendCs r xs
  | [], _ => by simp only [lendC.lendCs]
  | x :: xs, h => by
    simp only [lendC.lendCs]
    rw [zhO fun s hs => h s (by simp [slotsCs, hs]), zb6 fun s hs => h s (by simp [slotsCs, hs])]
end
theorem zhP {x : AV} (h : ∀ s ∈ slotsA x, findR s r' = findR s r) : lendA r' x = lendA r x := by
  unfold lendA
  split
  · rw [zhO (by simpa [slotsA] using h)]
  · rw [zb6 (by simpa [slotsA] using h)]
  · rfl
theorem zct : ∀ {xs : List AV}, (∀ s ∈ slotsAs xs, findR s r' = findR s r) → lendAs r' xs = lendAs r xs
  | [], _ => rfl
  | x :: xs, h => by
    simp only [lendAs]
    rw [zhP fun s hs => h s (by simp [slotsAs, hs]), zct fun s hs => h s (by simp [slotsAs, hs])]
theorem zcJ : ∀ {xs : List C}, slotsAs (xs.map AV.one) = slotsCs xs
  | [] => rfl
  | x :: xs => by simp [slotsAs, slotsCs, slotsA, zcJ (xs := xs)]
theorem callA_r {f : Operand} {args : Array Operand} (h1 : ∀ s ∈ opSl v f, findR s r' = findR s r) (h2 : ∀ s ∈ opSls v args.toList, findR s r' = findR s r) :
    callA v r' f args = callA v r f args := by
  unfold callA
  rw [zct (xs := evs v args.toList) (by rw [zdo]; exact h2)]
  split
  · rename_i n caps as g1 g2
    rw [zct (xs := caps.map AV.one)]
    rw [zcJ]
    intro s hs
    refine h1 s ?_
    rw [← zaO]
    unfold calleeOf at g1
    split at g1
    · cases g1; simp [slotsCs] at hs
    · rename_i n' caps' h3
      cases g1
      rw [h3]
      simpa [slotsA, slotsC] using hs
    · cases g1
  · rfl
theorem ze3 {B : Bool} {dst : Option Nat} {rfs : List RF} (h : ∀ s ∈ dl dst, findR s r' = findR s r) :
    (bindRetB B r' dst rfs).1 = (bindRetB B r dst rfs).1 ∧ (∀ s ∈ dl dst, findR s (bindRetB B r' dst rfs).2 = findR s (bindRetB B r dst rfs).2) ∧
      ∀ s, s ∉ dl dst → findR s (bindRetB B r' dst rfs).2 = findR s r' ∧ findR s (bindRetB B r dst rfs).2 = findR s r := by
  unfold bindRetB
  simp only
  split
  · exact ⟨rfl, h, fun _ _ => ⟨rfl, rfl⟩⟩
  · cases dst with
    | none => exact ⟨rfl, h, fun _ _ => ⟨rfl, rfl⟩⟩
    | some d =>
      have hd := zcV (h d (by simp [dl]))
      simp only
      rw [hd]
      have R := Rl.set (y := { next := nxt r d + 1, l := none :: bindRs B (nxt r d) (rfs.flatMap RF.cells) }) (Rl.start h) (s := d) (by simp [dl])
      exact ⟨rfl, R.1, fun s hs => ⟨(R.2 s hs).2, (R.2 s hs).1⟩⟩
theorem zgk {dst : Option Nat} {rfs : List RF} (h : ∀ s ∈ dl dst, findR s r' = findR s r) :
    (bindRet r' dst rfs).1 = (bindRet r dst rfs).1 ∧ (∀ s ∈ dl dst, findR s (bindRet r' dst rfs).2 = findR s (bindRet r dst rfs).2) ∧
      ∀ s, s ∉ dl dst → findR s (bindRet r' dst rfs).2 = findR s r' ∧ findR s (bindRet r dst rfs).2 = findR s r := ze3 h
variable {cx : Cx} {a : Act} {w : World} {β : Nat → Nat → Pl} {all : List Oper}
theorem gd_ok (h : Holds cx ⟨v, r⟩ a w β) {j : Nat} {want c' b : Bool} (hg : gdOf all v j = some (c', b)) : (yielded all.toArray a.tmps j == some want) = (c' && (b == want)) := by
  unfold gdOf at hg
  split at hg
  · rename_i o ho
    split at hg
    · rename_i d hd
      have hy : yielded all.toArray a.tmps j = (match a.tmps[d]? with | some (.bool b) => some b | _ => none) := by
        unfold yielded
        simp only [List.getElem?_toArray, ho, Option.bind_some, hd]
        rfl
      rw [List.getD_eq_getElem?_getD] at hg
      cases hv : v[d]? with
      | none => rw [hv] at hg; simp [boolV] at hg
      | some y =>
        obtain ⟨u, h1, h2⟩ := h.sl d y hv
        rw [hv] at hg
        simp only [Option.getD_some] at hg
        rw [hy, h1]
        have hu : (c' = true → u = .bool b) ∧ (c' = false → u = undef) := by
          unfold boolV at hg
          split at hg
          · cases hg
            exact ⟨fun _ => (zaA.1 h2).1, fun h => by cases h⟩
          · cases hg
            simp only [ReA] at h2
            exact ⟨fun h => (za3.1 (h2.1 h)).1, h2.2⟩
          · cases hg
            simp only [ReA] at h2
            exact ⟨fun h => by (cases h), fun _ => h2.2 trivial⟩
          · cases hg
        cases c' with
        | true => rw [hu.1 rfl]; simp
        | false => rw [hu.2 rfl]; simp [undef]
    · cases hg
  · cases hg
theorem zbH {dst : Option Nat} {op : Op} : ∀ s ∈ (fpOf v dst op).w, s ∈ (fpOf v dst op).t := by
  intro s hs
  have hh : ∀ {l : List Operand}, s ∈ hdSl v l → s ∈ opSls v l := fun {l} h => by
    cases l with
    | nil => exact h
    | cons x xs => simp only [hdSl, opSls] at h ⊢; simp [h]
  unfold fpOf at hs ⊢
  split at hs
  case h_13 =>
    simp only [List.mem_append] at hs ⊢
    exact hs.imp hh id
  all_goals simp_all [FP.both]
theorem put_eq {dst : Option Nat} {x : AV} : (⟨v, r⟩ : G).put dst x = ⟨putV v dst x, r⟩ := by cases dst <;> rfl
def Did (cx : Cx) (v' : List AV) (r' : Rs) (dst : Option Nat) (x : AV) (W : List Nat) (r1 : Rs) (a' : Act) (w' : World) : Prop :=
  ∃ r1', HoldsE cx ⟨putV v' dst x, r1'⟩ a' w' ∧ (∀ s ∈ W, findR s r1' = findR s r1) ∧ ∀ s, s ∉ W → findR s r1' = findR s r'
theorem wp_op {o : Oper} {Q : Exit → Act → World → Prop} {K : Act → World → Prop} {x : AV} {r1 : Rs} (hd : Does cx v' a w (execOp a.eval o) x r1)
    (hK : ∀ u w' β', Holds cx ⟨v', r1⟩ a w' β' → ReA cx w' r1 β' x u → K (a.put o.dst u) w') : o.wp cx.P a w K Q := by
  obtain ⟨n, w', β', u, h1, h2, h3, h4⟩ := hd
  unfold Oper.wp
  rw [h1]
  rcases h2 with rfl | ⟨rfl, rfl⟩
  · rw [Oper.upon_value]; exact hK _ _ _ h3 h4
  · rw [Oper.upon_skip]; exact hK _ _ _ h3 h4
theorem zbO {dst : Option Nat} {x : AV} {u : Value} {W : List Nat} {r1 r2 : Rs} (h : Holds cx ⟨v', r2⟩ a w β) (hx : ReA cx w r2 β x u) (h1 : ∀ s ∈ W, findR s r2 = findR s r1) (h2 : ∀ s, s ∉ W → findR s r2 = findR s r') :
    Did cx v' r' dst x W r1 (a.put dst u) w :=
  ⟨r2, ⟨β, by rw [← put_eq]; exact h.put dst hx⟩, h1, h2⟩
theorem ze4 (hT : TOK cx.P T) {o : Oper} (hs : (aop T true v r o.dst o.op).sc) (hv : ∀ x ∈ o.op.operands.toList, gev v' x = gev v x)
    (hr : ∀ s ∈ (fpOf v o.dst o.op).t, findR s r' = findR s r) (h : Holds cx ⟨v', r'⟩ a w β) {Q : Exit → Act → World → Prop} :
    o.wp cx.P a w (Did cx v' r' o.dst (aop T true v r o.dst o.op).x (fpOf v o.dst o.op).w (aop T true v r o.dst o.op).r) Q := by
  have hc := aop_r (r' := r') hr hs
  have hd := aop_ok (v := v') (r := r') (c := true) hT h rfl (o := o) (by rw [aop_v hv]; exact hc.sc)
  rw [aop_v hv, hc.x] at hd
  exact wp_op hd fun u w' β' g1 g2 => zbO g1 g2 hc.on fun s hs => (hc.off s hs).1
end
end Go.Pk
namespace Go.Pk
set_option linter.unusedSimpArgs false
set_option linter.unusedVariables false
section
variable {v v' : List AV} {r r' : Rs} {T : Nat → Option TI} {cx : Cx} {a : Act} {w w' : World} {β : Nat → Nat → Pl} {mv : Mv}
theorem zdh {hd : Hd} (h : findR hd.s r' = findR hd.s r) : getR r' hd = getR r hd := by unfold getR lookR; rw [h]
theorem roC_s {s : Nat} (h : findR s r' = findR s r) {x : C} (hx : ∀ t ∈ slotsC x, t = s) : roC r' x = roC r x := by
  cases x with
  | own hd lo n =>
    have e : findR hd.s r' = findR hd.s r := by rw [hx hd.s (by simp [slotsC])]; exact h
    simp only [roC]; rw [zdh e]
  | _ => rfl
theorem roCs_s {s : Nat} (h : findR s r' = findR s r) : ∀ {l : List C}, (∀ t ∈ slotsCs l, t = s) → roCs r' l = roCs r l
  | [], _ => rfl
  | x :: l, hx => by
    simp only [roCs]
    rw [roC_s h (fun t ht => hx t (by simp [slotsCs, ht])), roCs_s h (fun t ht => hx t (by simp [slotsCs, ht]))]
theorem ownHs_s {s : Nat} (h : findR s r' = findR s r) : ∀ {l : List C}, (∀ t ∈ slotsCs l, t = s) → ownHs r' l = ownHs r l
  | [], _ => rfl
  | x :: l, hx => by
    simp only [ownHs]
    rw [ownHs_s h (fun t ht => hx t (by simp [slotsCs, ht]))]
    congr 1
    cases x with
    | own hd lo n =>
      have e : findR hd.s r' = findR hd.s r := by rw [hx hd.s (by simp [slotsCs, slotsC])]; exact h
      simp only [ownH]; rw [zdh e]
    | _ => rfl
theorem zer : ∀ {l m : List C}, slotsCs (l ++ m) = slotsCs l ++ slotsCs m
  | [], _ => rfl
  | x :: l, m => by simp [slotsCs, zer (l := l)]
theorem moveA_at {x : AV} (h : ∀ s ∈ slotsA x, findR s r' = findR s r) : moveA r' x = moveA r x := by
  cases x with
  | agg l =>
    simp only [moveA]
    cases hsp : splitOwn l with
    | none => rfl
    | some q =>
      obtain ⟨a0, ⟨hd, lo, n⟩, b0⟩ := q
      have hl := zc2 hsp
      simp only
      have hs : ∀ s, s ∈ slotsCs a0 ∨ s = hd.s ∨ s ∈ slotsCs b0 → findR s r' = findR s r := fun s hs => by
        refine h s ?_
        rw [hl]
        simp only [slotsA, zer, slotsCs, slotsC, List.mem_append, List.mem_cons, List.not_mem_nil, or_false]
        exact hs
      rw [zb6 fun s hh => hs s (.inl hh), zb6 fun s hh => hs s (.inr (.inr hh)), zdh (hs hd.s (.inr (.inl rfl)))]
  | one c =>
    cases c with
    | ptr hd off =>
      have h1 := h hd.s (by simp [slotsA, slotsC])
      simp only [moveA]
      rw [zdh h1]
      cases getR r hd with
      | none => rfl
      | some res =>
        simp only
        by_cases hc : (slotsCs res.cells).all (· == hd.s) = true
        · have hc' : ∀ t ∈ slotsCs res.cells, t = hd.s := fun t ht => by have := List.all_eq_true.1 hc t ht; simpa using this
          rw [roCs_s h1 hc', ownHs_s h1 hc']
        · have hc' : (slotsCs res.cells).all (· == hd.s) = false := by simpa using hc
          rw [hc']
          simp only [Bool.false_and, Bool.false_eq_true, and_false, if_false]
          cases roCs r' res.cells <;> cases roCs r res.cells <;> rfl
    | own hd lo n =>
      have h1 := h hd.s (by simp [slotsA, slotsC])
      simp only [moveA]
      rw [zdh h1]
    | _ => rfl
  | _ => rfl
theorem zgl : ∀ {i : Nat} {xs : List AV}, (∀ s ∈ slotsAs xs, findR s r' = findR s r) → moveAs r' i xs = moveAs r i xs
  | _, [], _ => by simp [moveAs]
  | 0, x :: xs, h => by
    simp only [moveAs]
    rw [moveA_at fun s hs => h s (by simp [slotsAs, hs]), zct fun s hs => h s (by simp [slotsAs, hs])]
  | i + 1, x :: xs, h => by
    simp only [moveAs]
    rw [zhP fun s hs => h s (by simp [slotsAs, hs]), zgl fun s hs => h s (by simp [slotsAs, hs])]
theorem callM_v {i : Nat} {f : Operand} {args : Array Operand} (h1 : gev v' f = gev v f) (h2 : ∀ x ∈ args.toList, gev v' x = gev v x) : callM i v' r f args = callM i v r f args := by
  unfold callM
  rw [zbg h1, zbr h2]
theorem callM_r {i : Nat} {f : Operand} {args : Array Operand} (h1 : ∀ s ∈ opSl v f, findR s r' = findR s r) (h2 : ∀ s ∈ opSls v args.toList, findR s r' = findR s r) :
    callM i v r' f args = callM i v r f args := by
  unfold callM
  rw [zgl (xs := evs v args.toList) (by rw [zdo]; exact h2)]
  split
  · rename_i n caps as mv g1 g2
    rw [zct (xs := caps.map AV.one)]
    rw [zcJ]
    intro s hs
    refine h1 s ?_
    rw [← zaO]
    unfold calleeOf at g1
    split at g1
    · cases g1; simp [slotsCs] at hs
    · rename_i n' caps' h3
      cases g1
      rw [h3]
      simpa [slotsA, slotsC] using hs
    · cases g1
  · rfl
theorem scM_r {dst : Option Nat} {lent : List Nat} {l' : List RO} (h : findR mv.s r' = findR mv.s r) : scM r' dst mv lent l' = scM r dst mv lent l' := by
  cases mv with
  | o hd => simp only [scM]; rw [zdh (hd := hd) (r := r) (r' := r') h]
  | r hd n => simp only [scM]; rw [zdh (hd := hd) (r := r) (r' := r') h]
theorem borM_r (h : findR mv.s r' = findR mv.s r) : borM r' mv = borM r mv := by unfold borM; rw [h]
theorem backM_r {l' : List RO} (h : findR mv.s r' = findR mv.s r) : findR mv.s (backM r' mv l') = findR mv.s (backM r mv l') ∧
    ∀ s, s ≠ mv.s → findR s (backM r' mv l') = findR s r' ∧ findR s (backM r mv l') = findR s r := by
  cases mv with
  | o hd =>
    have h' : findR hd.s r' = findR hd.s r := h
    simp only [backM]
    rw [zdh (hd := hd) h', borM_r (mv := .o hd) h]
    have hn : nxt r' hd.s = nxt r hd.s := by unfold nxt; rw [h']
    rw [hn]
    cases getR r hd with
    | none => exact ⟨h', fun s _ => ⟨rfl, rfl⟩⟩
    | some res =>
      simp only [Mv.s]
      refine ⟨by rw [zaw, zaw, if_pos rfl, if_pos rfl], fun s hs => ⟨by rw [zaw, if_neg (Ne.symm hs)], by rw [zaw, if_neg (Ne.symm hs)]⟩⟩
  | r hd n =>
    have h' : findR hd.s r' = findR hd.s r := h
    simp only [backM]
    rw [zdh (hd := hd) h', h']
    cases getR r hd with
    | none => exact ⟨h', fun s _ => ⟨rfl, rfl⟩⟩
    | some res =>
      cases findR hd.s r with
      | none => exact ⟨h', fun s _ => ⟨rfl, rfl⟩⟩
      | some rs =>
        simp only [Mv.s]
        split
        · refine ⟨by rw [zaw, zaw, if_pos rfl, if_pos rfl], fun s hs => ⟨by rw [zaw, if_neg (Ne.symm hs)], by rw [zaw, if_neg (Ne.symm hs)]⟩⟩
        · refine ⟨by rw [zaw, zaw, if_pos rfl, if_pos rfl], fun s hs => ⟨by rw [zaw, if_neg (Ne.symm hs)], by rw [zaw, if_neg (Ne.symm hs)]⟩⟩
theorem bindM_r {dst : Option Nat} {rfs : List RF} {l' : List RO} (h : ∀ s ∈ mv.s :: dl dst, findR s r' = findR s r) :
    (bindM r' dst mv rfs l').1 = (bindM r dst mv rfs l').1 ∧ (∀ s ∈ mv.s :: dl dst, findR s (bindM r' dst mv rfs l').2 = findR s (bindM r dst mv rfs l').2) ∧
      ∀ s, s ∉ mv.s :: dl dst → findR s (bindM r' dst mv rfs l').2 = findR s r' ∧ findR s (bindM r dst mv rfs l').2 = findR s r := by
  have h0 : findR mv.s r' = findR mv.s r := h mv.s (by simp)
  unfold bindM
  rw [borM_r h0]
  obtain ⟨b1, b2⟩ := backM_r (l' := l') h0
  have hall : ∀ s ∈ mv.s :: dl dst, findR s (backM r' mv l') = findR s (backM r mv l') := fun s hs => by
    by_cases e : s = mv.s
    · subst e; exact b1
    · rw [(b2 s e).1, (b2 s e).2]; exact h s hs
  obtain ⟨g1, g2, g3⟩ := ze3 (B := borM r mv) (dst := dst) (rfs := rfs) (fun s hs => hall s (List.mem_cons_of_mem _ hs))
  refine ⟨g1, fun s hs => ?_, fun s hs => ?_⟩
  · by_cases hd : s ∈ dl dst
    · exact g2 s hd
    · rw [(g3 s hd).1, (g3 s hd).2]; exact hall s hs
  · simp only [List.mem_cons, not_or] at hs
    rw [(g3 s hs.2).1, (g3 s hs.2).2, (b2 s hs.1).1, (b2 s hs.1).2]
    exact ⟨rfl, rfl⟩
theorem callM_ok (h : Holds cx ⟨v, r⟩ a w β) {f : Operand} {args : Array Operand} {ts : Array TypeId} {n : FuncId} {as : List Arg} {post : List RF → List (List RO) → Prop} {o : Oper} {i0 : Nat} {dst : Option Nat} {lent : List Nat} {l' : List RO}
    (ho : o.op = .call ⟨.value f, args, ts⟩) (s1 : evS true v f) (s2 : evsS true v args.toList) (hcall : callM i0 v r f args = some (n, as, mv, lent)) (hsc : scM r dst mv lent l') (hok : CallOK cx.P n as post) :
    ∃ (us : Array Value) (hold : Hold) (u0 : Value), (execOp a.eval o).run cx.P w = .ok (.enter n us) w ∧
      (Calls cx.P n us w fun e w' => ∃ rfs objs u, post rfs objs ∧ e = .returned u ∧ Ret w (Av cx r β) (MB r β mv) w' [hold] rfs objs u) ∧ MvIs r β mv hold u0 := by
  have e1 := zaZ h (c := true) rfl s1
  have e2 := zdp h (c := true) rfl s2
  unfold callM at hcall
  split at hcall
  · rename_i n' caps as' mv' g1 g2
    split at hcall
    · rename_i cs g3
      cases hcall
      have hcap : ∃ cv : Array Value, a.eval f = .func (.func n) #[] cv ∧ ReCs cx w r β caps cv.toList := by
        unfold calleeOf at g1
        split at g1
        · rename_i n' h1
          cases g1
          rw [h1] at e1
          exact ⟨#[], (zaA.1 e1).1, by simp [ReCs]⟩
        · rename_i n' caps' h1
          cases g1
          rw [h1] at e1
          simp only [ReA, ReC] at e1
          obtain ⟨us, k1, k2⟩ := e1
          exact ⟨us, k1, k2⟩
        · cases g1
      obtain ⟨cv, k1, k2⟩ := hcap
      have hlent : mv.s ∉ lentSl i0 (evs v args.toList) ++ slotsCs caps := by
        have : (dl dst ++ (lentSl i0 (evs v args.toList) ++ slotsCs caps)).contains mv.s = false := by
          cases mv with
          | o hd => simp only [scM] at hsc; split at hsc; exact hsc.1; exact hsc.elim
          | r hd n => simp only [scM] at hsc; split at hsc; exact hsc.1; exact hsc.elim
        simp only [List.contains_eq_mem, List.mem_append, decide_eq_false_iff_not, not_or] at this ⊢
        exact this.2
      simp only [List.mem_append, not_or] at hlent
      obtain ⟨x, y, u0, hold, q0, q1, q2, q3, q4, q5⟩ := zgt h g2 hsc hlent.1 e2
      have hargs := q1 cs cv.toList (fun k => by
        have := zdL (mv := mv) (γ := γM r β mv) (k := k) (bs := []) h g3 (by rw [zcJ]; exact hlent.2) (zdj k2) (zs := []) (vs := []) (by simp [ArgsOK])
        simpa using this)
      have hobj : argObjs (as' ++ cs) = argObjs [y] := by rw [zaS, zbm g3, q2, List.append_nil]
      refine ⟨(args.toList.map a.eval ++ cv.toList).toArray, hold, u0, ?_, ?_, q5⟩
      · have := hok.1 (args.toList.map a.eval ++ cv.toList).toArray w
        have hm : (args.toList.map a.eval ++ cv.toList).toArray = args.map a.eval ++ cv := by apply Array.ext'; simp
        rw [hm] at this ⊢
        simp [execOp, ho, resolve, k1, Deferred.ofValue, invoke, this]
      · refine hok.2 w (Av cx r β) (MB r β mv) (γM r β mv) [hold] _ (fun b hb => ?_) (fun b hb => .inr hb.ob) hargs (by rw [hobj]; exact q3) ?_ (by rw [hobj]; exact q4)
        · rcases hb with hb | ⟨s, j, res, o, hl, _, hbs⟩
          · exact Nat.lt_of_lt_of_le (h.a0 b hb) h.n0
          · exact (h.rs _ _ _ hl).1.lt hbs
        · cases hold <;> simp [blks]
    · cases hcall
  · cases hcall
end
end Go.Pk
namespace Go.Pk
set_option linter.unusedSimpArgs false
set_option linter.unusedVariables false
section
variable {v v' : List AV} {r r' : Rs} {T : Nat → Option TI} {c : Bool} {cx : Cx} {a : Act} {w : World} {β : Nat → Nat → Pl} {all : List Oper}
theorem zgm {o : Oper} {f : Operand} {args : Array Operand} {ts : Array TypeId} {rfs : List RF} {n : FuncId} {as : List Arg} (ho : o.op = .call ⟨.value f, args, ts⟩) (hc : c = true)
    (s1 : evS c v f) (s2 : evsS c v args.toList) (hcall : callA v r f args = some (n, as)) (hok : CallOK cx.P n as (fun r o => r = rfs ∧ o = []))
    (hv : ∀ x ∈ o.op.operands.toList, gev v' x = gev v x) (hr : ∀ s ∈ (fpOf v o.dst o.op).t, findR s r' = findR s r) (h : Holds cx ⟨v', r'⟩ a w β)
    {Q : Exit → Act → World → Prop} {K : Act → World → Prop} (hK : ∀ u w', Ret w (Av cx r' β) noB w' [] rfs [] u → K (a.put o.dst u) w') : o.wp cx.P a w K Q := by
  rw [ho] at hv hr
  simp only [fpOf] at hr
  have h1 : gev v' f = gev v f := hv f (by simp [Op.operands, Call.operands])
  have h2 : ∀ x ∈ args.toList, gev v' x = gev v x := fun x hx => hv x (by simp [Op.operands, Call.operands, hx])
  have h3 : callA v' r' f args = some (n, as) := by
    rw [callA_v h1 h2, callA_r (fun s hs => hr s (by simp [hs])) (fun s hs => hr s (by simp [hs])), hcall]
  obtain ⟨us, g1, g2⟩ := call_ok h ho hc (by rw [zaU h1]; exact s1) (by rw [za9 h2]; exact s2) h3 hok
  unfold Oper.wp
  rw [g1, Oper.upon_enter]
  refine g2.mono fun e w' ⟨rfs', objs, u, ⟨e1, e2⟩, e3, e4⟩ => ?_
  subst e1 e2 e3
  exact hK u w' e4
def StepOK (cx : Cx) (all : List Oper) (o : Oper) (v : List AV) (r : Rs) (fp : FP) (x : AV) (r1 : Rs) : Prop :=
  (∀ s, s ∉ fp.w → findR s r1 = findR s r) ∧
  ∀ v' r', (∀ x ∈ o.op.operands.toList, gev v' x = gev v x) → (∀ j b, o.guard = some (j, b) → gdOf all v' j = gdOf all v j) → (∀ s ∈ fp.t, findR s r' = findR s r) →
    ∀ a w β, Holds cx ⟨v', r'⟩ a w β → ∀ i Q, all.toArray[i]? = some o → wpOp cx.P all.toArray Q i (Did cx v' r' o.dst x fp.w r1) a w
theorem zbc {o : Oper} {i : Nat} {Q : Exit → Act → World → Prop} {K : Act → World → Prop} (hi : all.toArray[i]? = some o) (hw : Region.wanted o (yielded all.toArray a.tmps) = true)
    (h : o.wp cx.P a w K Q) : wpOp cx.P all.toArray Q i K a w := by
  unfold wpOp
  simp only [hi, hw, if_true]
  exact .inl h
theorem zd8 {o : Oper} {i : Nat} {Q : Exit → Act → World → Prop} {K : Act → World → Prop} (hi : all.toArray[i]? = some o) (hw : Region.wanted o (yielded all.toArray a.tmps) = false)
    (h : K (a.put o.dst undef) w) : wpOp cx.P all.toArray Q i K a w := by
  unfold wpOp
  simp only [hi, hw, Bool.false_eq_true, if_false]
  exact h
theorem zes {o : Oper} {y : Nat → Option Bool} (h : o.guard = none) : Region.wanted o y = true := by unfold Region.wanted; rw [h]
theorem zbx {o : Oper} {y : Nat → Option Bool} {j : Nat} {b : Bool} (h : o.guard = some (j, b)) : Region.wanted o y = (y j == some b) := by unfold Region.wanted; rw [h]
def Wd (cx : Cx) (all : List Oper) (o : Oper) (v : List AV) : Prop := ∀ (v' : List AV) (r' : Rs) (a : Act) (w : World) (β : Nat → Nat → Pl), (∀ j b, o.guard = some (j, b) → gdOf all v' j = gdOf all v j) → Holds cx ⟨v', r'⟩ a w β →
  Region.wanted o (yielded all.toArray a.tmps) = true
theorem wd_none {o : Oper} (hg : o.guard = none) : Wd cx all o v := fun _ _ _ _ _ _ _ => zes hg
theorem wd_some {o : Oper} {j : Nat} {want c' b : Bool} (hg : o.guard = some (j, want)) (hgd : gdOf all v j = some (c', b)) (hcc : (c' && (b == want)) = true) : Wd cx all o v := fun v' r' a w β hgv h => by
  have hwant := gd_ok h (show gdOf all v' j = some (c', b) by rw [hgv j want hg]; exact hgd) (want := want)
  rw [← zbx hg, hcc] at hwant
  exact hwant
theorem step_free (hT : TOK cx.P T) {o : Oper} (hg : o.guard = none) (hs : (aop T true v r o.dst o.op).sc) : StepOK cx all o v r (fpOf v o.dst o.op) (aop T true v r o.dst o.op).x (aop T true v r o.dst o.op).r :=
  ⟨fun s hs' => ((aop_r (r' := r) (fun _ _ => rfl) hs).off s hs').2, fun v' r' hv _ hr a w β h i Q hi => zbc hi (zes hg) (ze4 hT hs hv hr h)⟩
theorem zfz {o : Oper} {f : Operand} {args : Array Operand} {ts : Array TypeId} {rfs : List RF} {n : FuncId} {as : List Arg} (ho : o.op = .call ⟨.value f, args, ts⟩) (hw : Wd cx all o v)
    (s1 : evS true v f) (s2 : evsS true v args.toList) (hcall : callA v r f args = some (n, as)) (hok : CallOK cx.P n as (fun r o => r = rfs ∧ o = [])) :
    StepOK cx all o v r (fpOf v o.dst o.op) (bindRet r o.dst rfs).1 (bindRet r o.dst rfs).2 := by
  have hfw : (fpOf v o.dst o.op).w = dl o.dst := by rw [ho]; rfl
  refine ⟨fun s hs => ?_, fun v' r' hv hgv hr a w β h i Q hi => zbc hi (hw v' r' a w β hgv h) (zgm ho rfl s1 s2 hcall hok hv hr h fun u w' hret => ?_)⟩
  · rw [hfw] at hs
    exact ((zgk (r' := r) (dst := o.dst) (rfs := rfs) fun _ _ => rfl).2.2 s hs).2
  · obtain ⟨β', g1, g2⟩ := ret_ok h hret o.dst
    obtain ⟨e1, e2, e3⟩ := zgk (r := r) (r' := r') (dst := o.dst) (rfs := rfs) (fun s hs => hr s (zbH s (by rw [hfw]; exact hs)))
    rw [e1] at g2
    rw [hfw]
    exact zbO g1 g2 e2 fun s hs => (e3 s hs).1
theorem step_ext {o : Oper} {f : Operand} {args : Array Operand} {ts : Array TypeId} {d : Value} (ho : o.op = .call ⟨.value f, args, ts⟩) (hw : Wd cx all o v)
    (s1 : evS true v f) (s2 : evsS true v args.toList) (he : ExtOK cx.P v r f args d) : StepOK cx all o v r (fpOf v o.dst o.op) (.one (.d (.v d))) r := by
  refine ⟨fun s _ => rfl, fun v' r' hv hgv hr a w β h i Q hi => zbc hi (hw v' r' a w β hgv h) ?_⟩
  obtain ⟨hd, n, hn, he⟩ := he
  rw [ho] at hv hr
  simp only [fpOf] at hr
  have h1 : gev v' f = gev v f := hv f (by simp [Op.operands, Call.operands])
  have h2 : ∀ x ∈ args.toList, gev v' x = gev v x := fun x hx => hv x (by simp [Op.operands, Call.operands, hx])
  have e1 := zaZ h rfl (c := true) (x := f) (by rw [zaU h1]; exact s1)
  have e2 := zdp h rfl (c := true) (xs := args.toList) (by rw [za9 h2]; exact s2)
  rw [zbg h1] at e1
  rw [zbr h2] at e2
  have hfn : a.eval f = .func (.func n) #[] #[] := by
    unfold calleeOf at hn
    split at hn
    · rename_i n' h3
      cases hn
      rw [h3] at e1
      exact (zaA.1 e1).1
    · rename_i n' caps' h3
      cases hn
      rw [h3] at e1
      simp only [ReA, ReC, ReCs] at e1
      obtain ⟨us, k1, k2⟩ := e1
      rw [k1]
      congr 1
      apply Array.ext'
      simpa using k2
    · cases hn
  have hrun := he cx v' r' a w β rfl (fun s hs => hr s (by simp [hs])) h _ e2
  have hm : (args.toList.map a.eval).toArray = args.map a.eval := by apply Array.ext'; simp
  rw [hm] at hrun
  unfold Oper.wp
  have hex : (execOp a.eval o).run cx.P w = .ok (.value d) w := by simp [execOp, ho, resolve, hfn, Deferred.ofValue, invoke, hrun]
  rw [hex, Oper.upon_value]
  exact zbO h (zaA.2 ⟨rfl, hd⟩) (fun s hs => hr s (by
    have : (fpOf v o.dst o.op).w = dl o.dst := by rw [ho]; rfl
    rw [this] at hs
    simp [hs])) fun s _ => rfl
theorem step_gd (hT : TOK cx.P T) {o : Oper} {j : Nat} {want c' b : Bool} (hg : o.guard = some (j, want)) (hgd : gdOf all v j = some (c', b)) (hable : gdable o.op = true)
    (hs : (aop T (c' && (b == want)) v r o.dst o.op).sc) : StepOK cx all o v r (fpOf v o.dst o.op) (.gd (c' && (b == want)) (aop T (c' && (b == want)) v r o.dst o.op).x) r := by
  have hw0 : (fpOf v o.dst o.op).w = [] := by
    cases ho : o.op with
    | call k =>
      obtain ⟨callee, as, ts⟩ := k
      cases callee with
      | builtin bb => cases bb <;> first | rfl | (rw [ho] at hable; cases hable)
      | _ => rw [ho] at hable; cases hable
    | _ => first | rfl | (rw [ho] at hable; cases hable)
  refine ⟨fun _ _ => rfl, fun v' r' hv hgv hr a w β h i Q hi => ?_⟩
  have hgd' : gdOf all v' j = some (c', b) := by rw [hgv j want hg]; exact hgd
  have hwant := gd_ok h hgd' (want := want)
  rw [← zbx hg] at hwant
  cases hcc : (c' && (b == want)) with
  | true =>
    rw [hcc] at hwant hs
    refine zbc hi hwant ?_
    have hc := aop_r (r' := r') hr hs
    have hd := aop_ok (v := v') (r := r') (c := true) hT h rfl (o := o) (by rw [aop_v hv]; exact hc.sc)
    rw [aop_v hv, hc.x] at hd
    rw [zfB hable hc.sc] at hd
    refine wp_op hd fun u w' β' g1 g2 => ?_
    rw [hw0]
    exact zbO g1 (by simp only [ReA]; exact ⟨fun _ => g2, fun h => by cases h⟩) (fun s hs => by simp at hs) fun s _ => rfl
  | false =>
    rw [hcc] at hwant
    refine zd8 hi hwant ?_
    rw [hw0]
    exact zbO h (by simp only [ReA]; exact ⟨fun h => (by cases h), fun _ => by trivial⟩) (fun s hs => by simp at hs) fun s _ => rfl
theorem zhh {o : Oper} {f : Operand} {args : Array Operand} {ts : Array TypeId} {rfs : List RF} {n : FuncId} {as : List Arg} {j : Nat} {want c' b : Bool} (ho : o.op = .call ⟨.value f, args, ts⟩) (hg : o.guard = some (j, want))
    (hgd : gdOf all v j = some (c', b)) (s1 : evS (c' && (b == want)) v f) (s2 : evsS (c' && (b == want)) v args.toList) (hcall : callA v r f args = some (n, as))
    (hok : (c' && (b == want)) = true → CallOK cx.P n as (fun r o => r = rfs ∧ o = [])) (hno : noOwn (rfs.flatMap RF.cells) = true) :
    StepOK cx all o v r (fpOf v o.dst o.op) (.gd (c' && (b == want)) (tupOf (bindFs 0 0 0 rfs))) r := by
  refine ⟨fun _ _ => rfl, fun v' r' hv hgv hr a w β h i Q hi => ?_⟩
  have hgd' : gdOf all v' j = some (c', b) := by rw [hgv j want hg]; exact hgd
  have hwant := gd_ok h hgd' (want := want)
  rw [← zbx hg] at hwant
  cases hcc : (c' && (b == want)) with
  | true =>
    rw [hcc] at hwant
    refine zbc hi hwant (zgm ho hcc s1 s2 hcall (hok hcc) hv hr h fun u w' hret => ?_)
    obtain ⟨g1, g2⟩ := zgp h hno hret
    exact zbO g1 (by simp only [ReA]; exact ⟨fun _ => g2, fun h => by cases h⟩) (fun s hs => hr s (zbH s hs)) fun s _ => rfl
  | false =>
    rw [hcc] at hwant
    refine zd8 hi hwant ?_
    exact zbO h (by simp only [ReA]; exact ⟨fun h => (by cases h), fun _ => by trivial⟩) (fun s hs => hr s (zbH s hs)) fun s _ => rfl
theorem step_yes (hT : TOK cx.P T) {o : Oper} {j : Nat} {want c' b : Bool} (hg : o.guard = some (j, want)) (hgd : gdOf all v j = some (c', b)) (hcc : (c' && (b == want)) = true)
    (hs : (aop T true v r o.dst o.op).sc) : StepOK cx all o v r (fpOf v o.dst o.op) (aop T true v r o.dst o.op).x (aop T true v r o.dst o.op).r := by
  refine ⟨fun s hs' => ((aop_r (r' := r) (fun _ _ => rfl) hs).off s hs').2, fun v' r' hv hgv hr a w β h i Q hi => ?_⟩
  have hwant := gd_ok h (show gdOf all v' j = some (c', b) by rw [hgv j want hg]; exact hgd) (want := want)
  rw [← zbx hg, hcc] at hwant
  exact zbc hi hwant (ze4 hT hs hv hr h)
theorem zfA {o : Oper} {j : Nat} {want c' b : Bool} (hg : o.guard = some (j, want)) (hgd : gdOf all v j = some (c', b)) (hcc : (c' && (b == want)) = false) : StepOK cx all o v r (fpOf v o.dst o.op) skipV r := by
  refine ⟨fun _ _ => rfl, fun v' r' hv hgv hr a w β h i Q hi => ?_⟩
  have hwant := gd_ok h (show gdOf all v' j = some (c', b) by rw [hgv j want hg]; exact hgd) (want := want)
  rw [← zbx hg, hcc] at hwant
  exact zd8 hi hwant (zbO h (by simp [ReA, ReC]) (fun s hs => hr s (zbH s hs)) fun s _ => rfl)
theorem step_gno {o : Oper} {j : Nat} {want c' b : Bool} {x : AV} (hg : o.guard = some (j, want)) (hgd : gdOf all v j = some (c', b)) (hcc : (c' && (b == want)) = false) : StepOK cx all o v r (fpOf v o.dst o.op) (.gd (c' && (b == want)) x) r := by
  refine ⟨fun _ _ => rfl, fun v' r' hv hgv hr a w β h i Q hi => ?_⟩
  have hwant := gd_ok h (show gdOf all v' j = some (c', b) by rw [hgv j want hg]; exact hgd) (want := want)
  rw [← zbx hg, hcc] at hwant
  exact zd8 hi hwant (zbO h (by rw [hcc]; simp [ReA, ReC]) (fun s hs => hr s (zbH s hs)) fun s _ => rfl)
theorem step_mCall {o : Oper} {f : Operand} {args : Array Operand} {ts : Array TypeId} {rfs : List RF} {l' : List RO} {n : FuncId} {as : List Arg} {mv : Mv} {lent : List Nat} {i0 : Nat} (ho : o.op = .call ⟨.value f, args, ts⟩) (hw : Wd cx all o v)
    (s1 : evS true v f) (s2 : evsS true v args.toList) (hcall : callM i0 v r f args = some (n, as, mv, lent)) (hok : CallOK cx.P n as (fun r o => r = rfs ∧ o = [l'])) (hsc : scM r o.dst mv lent l') :
    StepOK cx all o v r ⟨(fpOf v o.dst o.op).t ++ [mv.s], mv.s :: dl o.dst⟩ (bindM r o.dst mv rfs l').1 (bindM r o.dst mv rfs l').2 := by
  refine ⟨fun s hs => (bindM_r (r := r) (r' := r) (fun _ _ => rfl)).2.2 s hs |>.2, fun v' r' hv hgv hr a w β h i Q hi => zbc hi (hw v' r' a w β hgv h) ?_⟩
  rw [ho] at hv
  have hft : ∀ s ∈ (opSl v f ++ (opSls v args.toList ++ dl o.dst)), findR s r' = findR s r := fun s hs => hr s (List.mem_append_left _ (by rw [ho]; exact hs))
  have hms : findR mv.s r' = findR mv.s r := hr mv.s (List.mem_append_right _ (by simp))
  have h1 : gev v' f = gev v f := hv f (by simp [Op.operands, Call.operands])
  have h2 : ∀ x ∈ args.toList, gev v' x = gev v x := fun x hx => hv x (by simp [Op.operands, Call.operands, hx])
  have h3 : callM i0 v' r' f args = some (n, as, mv, lent) := by
    rw [callM_v h1 h2, callM_r (fun s hs => hft s (by simp [hs])) (fun s hs => hft s (by simp [hs])), hcall]
  have hsc' : scM r' o.dst mv lent l' := by rw [scM_r hms]; exact hsc
  obtain ⟨us, hold, u0, g1, g2, g3⟩ := callM_ok h ho (by rw [zaU h1]; exact s1) (by rw [za9 h2]; exact s2) h3 hsc' hok
  unfold Oper.wp
  rw [g1, Oper.upon_enter]
  refine g2.mono fun e w' ⟨rfs', objs, u, ⟨e1, e2⟩, e3, e4⟩ => ?_
  subst e1 e2 e3
  obtain ⟨β', q1, q2⟩ := retM_ok h g3 hsc' e4
  obtain ⟨k1, k2, k3⟩ := bindM_r (r := r) (r' := r') (dst := o.dst) (mv := mv) (rfs := rfs') (l' := l') (fun s hs => by
    rcases List.mem_cons.1 hs with rfl | hs
    · exact hms
    · exact hft s (by simp [hs]))
  rw [k1] at q2
  exact zbO q1 q2 k2 fun s hs => (k3 s hs).1
theorem zhQ {d : Nat} {rfs : List RF} {l : List RO} (h : ∀ s ∈ (d + pK) :: dl (some d), findR s r' = findR s r) :
    (bindP r' d rfs l).1 = (bindP r d rfs l).1 ∧ (∀ s ∈ (d + pK) :: dl (some d), findR s (bindP r' d rfs l).2 = findR s (bindP r d rfs l).2) ∧
      ∀ s, s ∉ (d + pK) :: dl (some d) → findR s (bindP r' d rfs l).2 = findR s r' ∧ findR s (bindP r d rfs l).2 = findR s r := by
  have h1 : nxt r' d = nxt r d := zcV (h d (by simp [dl]))
  have h2 : nxt r' (d + pK) = nxt r (d + pK) := zcV (h (d + pK) (by simp))
  unfold bindP
  rw [h1, h2]
  split
  · refine ⟨rfl, fun s hs => ?_, fun s hs => ?_⟩
    · rw [zaw, zaw, h s hs]
    · simp only [dl, List.mem_cons, List.not_mem_nil, or_false, not_or] at hs
      rw [zaw, zaw, if_neg (Ne.symm hs.2), if_neg (Ne.symm hs.2)]
      exact ⟨rfl, rfl⟩
  · refine ⟨rfl, fun s hs => ?_, fun s hs => ?_⟩
    · rw [zaw, zaw, zaw, zaw, h s hs]
    · simp only [dl, List.mem_cons, List.not_mem_nil, or_false, not_or] at hs
      rw [zaw, zaw, zaw, zaw, if_neg (Ne.symm hs.1), if_neg (Ne.symm hs.2), if_neg (Ne.symm hs.1), if_neg (Ne.symm hs.2)]
      exact ⟨rfl, rfl⟩
theorem step_pCall {o : Oper} {f : Operand} {args : Array Operand} {ts : Array TypeId} {rfs : List RF} {l : List RO} {n : FuncId} {as : List Arg} {d : Nat} (ho : o.op = .call ⟨.value f, args, ts⟩) (hw : Wd cx all o v) (hd : o.dst = some d)
    (s1 : evS true v f) (s2 : evsS true v args.toList) (hcall : callA v r f args = some (n, as)) (hok : CallP cx.P n as rfs l) :
    StepOK cx all o v r ⟨(fpOf v o.dst o.op).t ++ [d + pK], (d + pK) :: dl o.dst⟩ (bindP r d rfs l).1 (bindP r d rfs l).2 := by
  refine ⟨fun s hs => (zhQ (r := r) (r' := r) (fun _ _ => rfl)).2.2 s (by rw [hd] at hs; exact hs) |>.2, fun v' r' hv hgv hr a w β h i Q hi => zbc hi (hw v' r' a w β hgv h) ?_⟩
  rw [ho] at hv
  have hft : ∀ s ∈ (opSl v f ++ (opSls v args.toList ++ dl o.dst)), findR s r' = findR s r := fun s hs => hr s (List.mem_append_left _ (by rw [ho]; exact hs))
  have h1 : gev v' f = gev v f := hv f (by simp [Op.operands, Call.operands])
  have h2 : ∀ x ∈ args.toList, gev v' x = gev v x := fun x hx => hv x (by simp [Op.operands, Call.operands, hx])
  have h3 : callA v' r' f args = some (n, as) := by
    rw [callA_v h1 h2, callA_r (fun s hs => hft s (by simp [hs])) (fun s hs => hft s (by simp [hs])), hcall]
  obtain ⟨us, g1, g2⟩ := callX_ok h ho rfl (by rw [zaU h1]; exact s1) (by rw [za9 h2]; exact s2) h3 hok
  unfold Oper.wp
  rw [g1, Oper.upon_enter]
  refine g2.mono fun e w' ⟨bs, rfs', objs, u, ⟨b, e1, e2, e3⟩, e4, e5, e6⟩ => ?_
  subst e1 e2 e3 e4
  obtain ⟨β', q1, q2⟩ := retP_ok (d := d) h (e5 b (by simp [blks])) e6
  have hag : ∀ s ∈ (d + pK) :: dl (some d), findR s r' = findR s r := fun s hs => by
    rcases List.mem_cons.1 hs with rfl | hs
    · exact hr _ (List.mem_append_right _ (by simp))
    · exact hft s (by rw [hd]; simp [hs])
  obtain ⟨k1, k2, k3⟩ := zhQ (r := r) (r' := r') (rfs := rfs) (l := l) hag
  rw [k1] at q2
  rw [hd]
  exact zbO q1 q2 k2 fun s hs => (k3 s hs).1
theorem fpM_sub {o : Oper} {f : Operand} {args : Array Operand} {ts : Array TypeId} {s0 : Nat} (ho : o.op = .call ⟨.value f, args, ts⟩) : ∀ s ∈ (s0 :: dl o.dst), s ∈ ((fpOf v o.dst o.op).t ++ [s0]) := by
  intro s hs
  rw [ho]
  simp only [fpOf, List.mem_append, List.mem_cons, List.mem_singleton] at hs ⊢
  rcases hs with rfl | hs
  · exact .inr (.inl rfl)
  · exact .inl (.inr (.inr hs))
theorem ze5 {o : Oper} {f : Operand} {args : Array Operand} {ts : Array TypeId} {rest : List Oper} {m : M} {K : G → Prop} (ho : o.op = .call ⟨.value f, args, ts⟩) (hw : Wd cx all o v) (s1 : evS true v f) (s2 : evsS true v args.toList)
    (s3 : (CallK cx.P true (callA v r f args) fun rfs => aops T cx.P all (addFP m v o.dst o.op) rest (putV v o.dst (bindRet r o.dst rfs).1) (bindRet r o.dst rfs).2 K) ∨
      (∃ i, CallMK cx.P r o.dst (callM i v r f args) fun mv rfs l' => aops T cx.P all (upM o.dst mv.s (addFP m v o.dst o.op)) rest (putV v o.dst (bindM r o.dst mv rfs l').1) (bindM r o.dst mv rfs l').2 K) ∨
      (∃ d, ExtOK cx.P v r f args d ∧ aops T cx.P all (addFP m v o.dst o.op) rest (putV v o.dst (.one (.d (.v d)))) r K) ∨
      ∃ d, o.dst = some d ∧ CallPK cx.P (callA v r f args) fun rfs l => aops T cx.P all (upM o.dst (d + pK) (addFP m v o.dst o.op)) rest (putV v o.dst (bindP r d rfs l).1) (bindP r d rfs l).2 K) :
    ∃ fp x r1, StepOK cx all o v r fp x r1 ∧ (∀ s ∈ fp.w, s ∈ fp.t) ∧ ∃ off', aops T cx.P all ⟨m.fp.map (fp :: ·), off'⟩ rest (putV v o.dst x) r1 K := by
  have hadd : ∀ {op : Op}, addFP m v o.dst op = ⟨m.fp.map (fpOf v o.dst op :: ·), m.off⟩ := fun {op} => by obtain ⟨fp, off⟩ := m; cases fp <;> rfl
  rcases s3 with s3 | ⟨i0, s3⟩ | ⟨d, s3, s4⟩ | ⟨d, hd, s3⟩
  · unfold CallK at s3
    split at s3
    · rename_i n as hcall
      obtain ⟨rfs, g1, g2⟩ := s3
      rw [hadd] at g2
      exact ⟨_, _, _, zfz ho hw s1 s2 hcall (g1 rfl), zbH, _, g2⟩
    · exact s3.elim
  · unfold CallMK at s3
    split at s3
    · rename_i n as mv lent hcall
      obtain ⟨rfs, l', g1, g2, g3⟩ := s3
      refine ⟨_, _, _, step_mCall ho hw s1 s2 hcall g1 g2, fpM_sub ho, m.off, ?_⟩
      rw [hadd] at g3
      obtain ⟨fp, off⟩ := m
      cases fp with
      | none => exact g3
      | some l => exact g3
    · exact s3.elim
  · rw [hadd] at s4
    exact ⟨_, _, _, step_ext ho hw s1 s2 s3, zbH, _, s4⟩
  · unfold CallPK at s3
    split at s3
    · rename_i n as hcall
      obtain ⟨rfs, l, g1, g2⟩ := s3
      refine ⟨_, _, _, step_pCall ho hw hd s1 s2 hcall g1, fpM_sub ho, m.off, ?_⟩
      rw [hadd] at g2
      obtain ⟨fp, off⟩ := m
      cases fp with
      | none => exact g2
      | some l => exact g2
    · exact s3.elim
theorem step_ok (hT : TOK cx.P T) {o : Oper} {rest : List Oper} {m : M} {K : G → Prop} (hk : aops T cx.P all m (o :: rest) v r K) :
    ∃ fp x r1, StepOK cx all o v r fp x r1 ∧ (∀ s ∈ fp.w, s ∈ fp.t) ∧ ∃ off', aops T cx.P all ⟨m.fp.map (fp :: ·), off'⟩ rest (putV v o.dst x) r1 K := by
  have hadd : ∀ {op : Op}, addFP m v o.dst op = ⟨m.fp.map (fpOf v o.dst op :: ·), m.off⟩ := fun {op} => by obtain ⟨fp, off⟩ := m; cases fp <;> rfl
  unfold aops at hk
  split at hk
  · rename_i hg
    split at hk
    · rename_i f args ts ho
      obtain ⟨s1, s2, s3⟩ := hk
      exact ze5 ho (wd_none hg) s1 s2 s3
    · obtain ⟨g1, g2⟩ := hk
      rw [hadd] at g2
      exact ⟨_, _, _, step_free hT hg g1, zbH, _, g2⟩
  · rename_i j want hg
    split at hk
    · obtain ⟨g1, g2⟩ := hk
      cases hgd : gdOf all v j with
      | none => rw [hgd] at g1; exact g1.elim
      | some p =>
        obtain ⟨c', b⟩ := p
        rw [hgd] at g1
        rw [hadd] at g2
        exact ⟨_, _, _, zfA hg hgd g1, zbH, _, g2⟩
    split at hk
    · rename_i c' b hgd
      split at hk
      · rename_i f args ts ho
        obtain ⟨s1, s2, s3⟩ := hk
        rcases s3 with s3 | ⟨hcc, g2⟩ | ⟨h1, h2⟩
        · unfold CallK at s3
          split at s3
          · rename_i n as hcall
            obtain ⟨rfs, g1, g2, g3⟩ := s3
            rw [hadd] at g3
            exact ⟨_, _, _, zhh ho hg hgd s1 s2 hcall g1 g2, zbH, _, g3⟩
          · exact s3.elim
        · rw [hadd] at g2
          exact ⟨_, _, _, zfA hg hgd hcc, zbH, _, g2⟩
        · cases hcc : (c' && (b == want)) with
          | true =>
            rw [hcc] at s1 s2
            exact ze5 ho (wd_some hg hgd hcc) s1 s2 (h1 hcc)
          | false =>
            have g2 := h2 hcc
            rw [hadd] at g2
            exact ⟨_, _, _, zfA hg hgd hcc, zbH, _, g2⟩
      · split at hk
        · rename_i hable
          obtain ⟨g1, g2⟩ := hk
          rw [hadd] at g2
          cases hcc : (c' && (b == want)) with
          | true => exact ⟨_, _, _, step_gd hT hg hgd hable (g1 hcc), zbH, _, g2⟩
          | false => exact ⟨_, _, _, step_gno hg hgd hcc, zbH, _, g2⟩
        · cases hcc : (c' && (b == want)) with
          | true =>
            obtain ⟨g1, g2⟩ := hk.1 hcc
            rw [hadd] at g2
            exact ⟨_, _, _, step_yes hT hg hgd hcc g1, zbH, _, g2⟩
          | false =>
            have g2 := hk.2 hcc
            rw [hadd] at g2
            exact ⟨_, _, _, zfA hg hgd hcc, zbH, _, g2⟩
    · exact hk.elim
end
end Go.Pk
