/-
  No cell of these rows narrows 'for every input' (looked for: loops, veiled, ifaces, maps, wideKeys, modest, calm, conditions, laid).
  DERIVED. THE GIVEN ROWS OF THIS SEAT. 5 by the template 'for every input the law returns true; each argument reads behind the call as it read before'; 0 by the template 'total and deterministic' (their statements: YtbpmcjeeeiffhaaGreatTotals.lean).
  GIVEN WITH THE SEED: the statements are not yours to turn. If you find one false, say at which input.
  Laid BY PROGRAM, IN A SANDBOX (cutbox-rows.mjs): the forced cells as the released guide's own fill.sh prints them over the translation cd9ea58b5eff8e90… (all of the seat's roots in one cut). By AI agents, Wed Nov 11 2026. No macro, syntax, notation, axiom, sorry.
-/
import Derived.Test.YtbpmcjeeeiffhaaGreatChecked
import GoSem.Claim
import GoSem.ClaimJoined
import GoSem.ClaimMapViews
import Derived.JoinedTies
import Derived.KernelRfl
namespace Go.Proofs.YtbpmcjeeeiffhaaGreat
/- THE CELL 'sum', in the pinned program and in every row, IS THE sha256 OF THE DUMP (.gsa) THAT YtbpmcjeeeiffhaaGreatProg.lean LOADS. Nothing in Lean hashes anything: it is a label: what it is worth is what the hold of that sum in a sandbox is worth. -/
noncomputable def Tryz.pinned : Pinned := { name := "ytbpmcjeeeiffhaagreat", sum := "cd9ea58b5eff8e903118c535eed24a02144a54b80c7ccebcad91bf5087169953", checked := Tryz.checked }
namespace Rows
def none {H : Type} : Left H := { results := [], args := [] }

/-- 'padlocklaw11.SnapRefuses': WHATEVER THE INPUT: true; the input reads as it did. -/
def snapRefusesSpec : ChangeSpec := { name := "snapRefuses", fn := fun _ => fun
  | [d1, d2, d3] => { results := [.lit (.bool true)], args := [d1, d2, d3] }
  | _ => none }
def snapRefusesRow : OpenClaim := { program := "ytbpmcjeeeiffhaagreat", sum := "cd9ea58b5eff8e903118c535eed24a02144a54b80c7ccebcad91bf5087169953", func := "padlock/padlocklaw11.SnapRefuses", spec := "snapRefuses", unfollowed := true, recurses := true, apart := false }
def SnapRefusesSaid : Prop := snapRefusesRow.holds Tryz.pinned (OpenSpec.ofChange snapRefusesSpec)

/-- ITS FALSE NEIGHBOUR: 'it returns false'. Refute it at one input. -/
def snapRefusesWrong : ChangeSpec := { name := "snapRefuses", fn := fun _ => fun
  | [d1, d2, d3] => { results := [.lit (.bool false)], args := [d1, d2, d3] }
  | _ => none }
def SnapRefusesWrongFalsely : Prop := snapRefusesRow.holds Tryz.pinned (OpenSpec.ofChange snapRefusesWrong)

/-- 'padlocklaw11.SnapAll': WHATEVER THE INPUT: true; the input reads as it did. -/
def snapAllSpec : ChangeSpec := { name := "snapAll", fn := fun _ => fun
  | [d1, d2, d3, d4] => { results := [.lit (.bool true)], args := [d1, d2, d3, d4] }
  | _ => none }
def snapAllRow : OpenClaim := { program := "ytbpmcjeeeiffhaagreat", sum := "cd9ea58b5eff8e903118c535eed24a02144a54b80c7ccebcad91bf5087169953", func := "padlock/padlocklaw11.SnapAll", spec := "snapAll", unfollowed := true, recurses := true, apart := false }
def SnapAllSaid : Prop := snapAllRow.holds Tryz.pinned (OpenSpec.ofChange snapAllSpec)

/-- ITS FALSE NEIGHBOUR: 'it returns false'. Refute it at one input. -/
def snapAllWrong : ChangeSpec := { name := "snapAll", fn := fun _ => fun
  | [d1, d2, d3, d4] => { results := [.lit (.bool false)], args := [d1, d2, d3, d4] }
  | _ => none }
def SnapAllWrongFalsely : Prop := snapAllRow.holds Tryz.pinned (OpenSpec.ofChange snapAllWrong)

/-- 'padlocklaw11.SnapMade': WHATEVER THE INPUT: true; the input reads as it did. -/
def snapMadeSpec : ChangeSpec := { name := "snapMade", fn := fun _ => fun
  | [d1, d2, d3, d4, d5, d6] => { results := [.lit (.bool true)], args := [d1, d2, d3, d4, d5, d6] }
  | _ => none }
def snapMadeRow : OpenClaim := { program := "ytbpmcjeeeiffhaagreat", sum := "cd9ea58b5eff8e903118c535eed24a02144a54b80c7ccebcad91bf5087169953", func := "padlock/padlocklaw11.SnapMade", spec := "snapMade", unfollowed := true, recurses := true, apart := false }
def SnapMadeSaid : Prop := snapMadeRow.holds Tryz.pinned (OpenSpec.ofChange snapMadeSpec)

/-- ITS FALSE NEIGHBOUR: 'it returns false'. Refute it at one input. -/
def snapMadeWrong : ChangeSpec := { name := "snapMade", fn := fun _ => fun
  | [d1, d2, d3, d4, d5, d6] => { results := [.lit (.bool false)], args := [d1, d2, d3, d4, d5, d6] }
  | _ => none }
def SnapMadeWrongFalsely : Prop := snapMadeRow.holds Tryz.pinned (OpenSpec.ofChange snapMadeWrong)

/-- 'padlocklaw11.SnapBack': WHATEVER THE INPUT: true; the input reads as it did. -/
def snapBackSpec : ChangeSpec := { name := "snapBack", fn := fun _ => fun
  | [d1, d2, d3, d4, d5, d6] => { results := [.lit (.bool true)], args := [d1, d2, d3, d4, d5, d6] }
  | _ => none }
def snapBackRow : OpenClaim := { program := "ytbpmcjeeeiffhaagreat", sum := "cd9ea58b5eff8e903118c535eed24a02144a54b80c7ccebcad91bf5087169953", func := "padlock/padlocklaw11.SnapBack", spec := "snapBack", unfollowed := true, recurses := true, apart := false }
def SnapBackSaid : Prop := snapBackRow.holds Tryz.pinned (OpenSpec.ofChange snapBackSpec)

/-- ITS FALSE NEIGHBOUR: 'it returns false'. Refute it at one input. -/
def snapBackWrong : ChangeSpec := { name := "snapBack", fn := fun _ => fun
  | [d1, d2, d3, d4, d5, d6] => { results := [.lit (.bool false)], args := [d1, d2, d3, d4, d5, d6] }
  | _ => none }
def SnapBackWrongFalsely : Prop := snapBackRow.holds Tryz.pinned (OpenSpec.ofChange snapBackWrong)

/-- 'padlocklaw11.SnapGoesOn': WHATEVER THE INPUT: true; the input reads as it did. -/
def snapGoesOnSpec : ChangeSpec := { name := "snapGoesOn", fn := fun _ => fun
  | [d1, d2] => { results := [.lit (.bool true)], args := [d1, d2] }
  | _ => none }
def snapGoesOnRow : OpenClaim := { program := "ytbpmcjeeeiffhaagreat", sum := "cd9ea58b5eff8e903118c535eed24a02144a54b80c7ccebcad91bf5087169953", func := "padlock/padlocklaw11.SnapGoesOn", spec := "snapGoesOn", inPlace := ["slices.overlaps[padlock/api.Session]", "internal/bytealg.abigen_runtime_cmpstring", "slices.overlaps[padlock/api.Lock]", "slices.overlaps[padlock/api.Memo]"], unfollowed := true, recurses := true, apart := false }
def SnapGoesOnSaid : Prop := snapGoesOnRow.holds Tryz.pinned (OpenSpec.ofChange snapGoesOnSpec)

/-- ITS FALSE NEIGHBOUR: 'it returns false'. Refute it at one input. -/
def snapGoesOnWrong : ChangeSpec := { name := "snapGoesOn", fn := fun _ => fun
  | [d1, d2] => { results := [.lit (.bool false)], args := [d1, d2] }
  | _ => none }
def SnapGoesOnWrongFalsely : Prop := snapGoesOnRow.holds Tryz.pinned (OpenSpec.ofChange snapGoesOnWrong)

/- THE SECOND FORM. 'bulk': how many values and letters a reading holds, each counted each time it is reached (what is shared counts as often as it is met; a slice's spare places count too). A statement '..UptoSaid' is the law's where the arguments, and the package variables that the reading takes, are together of bulk at most 1048576: NARROWER than '..Said'. Prove '..Said' where nothing that the law and all that it calls make is longer than what came in: it says more and counts as full. Else prove '..UptoSaid'. A law counts once. -/
mutual
def uptoBulk {H : Type} : DataW H → Nat
  | .lit (.string bytes) => bytes.length + 1
  | .lit _ => 1
  | .nil => 1
  | .ptr d => uptoBulk d + 1
  | .slice elems spare => uptoBulkAll elems + uptoBulkAll spare + 1
  | .agg parts => uptoBulkAll parts + 1
  | .iface _ d => uptoBulk d + 1
  | .map entries => uptoBulkEntries entries + 1
  | .held _ => 1
def uptoBulkAll {H : Type} : List (DataW H) → Nat
  | [] => 0
  | d :: r => uptoBulk d + uptoBulkAll r
def uptoBulkEntries {H : Type} : List (Lit × DataW H) → Nat
  | [] => 0
  | x :: r => uptoBulkEntry x + uptoBulkEntries r
def uptoBulkEntry {H : Type} : Lit × DataW H → Nat
  | (.string bytes, d) => bytes.length + uptoBulk d + 1
  | (_, d) => uptoBulk d + 1
 end
def uptoSmall : (H : Type) → List (DataW H) → Bool := fun _ ds => decide (uptoBulkAll ds ≤ 1048576)
def OpenSpec.upto (s : _root_.Go.ChangeSpec) : _root_.Go.OpenSpec := { _root_.Go.OpenSpec.ofChange s with cond := some uptoSmall }

/-- 'padlocklaw11.SnapRefuses', WHERE WHAT IT READS IS OF BULK AT MOST 1048576: true; the input reads as it did. -/
def snapRefusesUptoRow : OpenClaim := { program := "ytbpmcjeeeiffhaagreat", sum := "cd9ea58b5eff8e903118c535eed24a02144a54b80c7ccebcad91bf5087169953", func := "padlock/padlocklaw11.SnapRefuses", spec := "snapRefuses", unfollowed := true, recurses := true, apart := false, narrowed := true }
def SnapRefusesUptoSaid : Prop := snapRefusesUptoRow.holds Tryz.pinned (OpenSpec.upto snapRefusesSpec)

/-- 'padlocklaw11.SnapAll', WHERE WHAT IT READS IS OF BULK AT MOST 1048576: true; the input reads as it did. -/
def snapAllUptoRow : OpenClaim := { program := "ytbpmcjeeeiffhaagreat", sum := "cd9ea58b5eff8e903118c535eed24a02144a54b80c7ccebcad91bf5087169953", func := "padlock/padlocklaw11.SnapAll", spec := "snapAll", unfollowed := true, recurses := true, apart := false, narrowed := true }
def SnapAllUptoSaid : Prop := snapAllUptoRow.holds Tryz.pinned (OpenSpec.upto snapAllSpec)

/-- 'padlocklaw11.SnapMade', WHERE WHAT IT READS IS OF BULK AT MOST 1048576: true; the input reads as it did. -/
def snapMadeUptoRow : OpenClaim := { program := "ytbpmcjeeeiffhaagreat", sum := "cd9ea58b5eff8e903118c535eed24a02144a54b80c7ccebcad91bf5087169953", func := "padlock/padlocklaw11.SnapMade", spec := "snapMade", unfollowed := true, recurses := true, apart := false, narrowed := true }
def SnapMadeUptoSaid : Prop := snapMadeUptoRow.holds Tryz.pinned (OpenSpec.upto snapMadeSpec)

/-- 'padlocklaw11.SnapBack', WHERE WHAT IT READS IS OF BULK AT MOST 1048576: true; the input reads as it did. -/
def snapBackUptoRow : OpenClaim := { program := "ytbpmcjeeeiffhaagreat", sum := "cd9ea58b5eff8e903118c535eed24a02144a54b80c7ccebcad91bf5087169953", func := "padlock/padlocklaw11.SnapBack", spec := "snapBack", unfollowed := true, recurses := true, apart := false, narrowed := true }
def SnapBackUptoSaid : Prop := snapBackUptoRow.holds Tryz.pinned (OpenSpec.upto snapBackSpec)

/-- 'padlocklaw11.SnapGoesOn', WHERE WHAT IT READS IS OF BULK AT MOST 1048576: true; the input reads as it did. -/
def snapGoesOnUptoRow : OpenClaim := { program := "ytbpmcjeeeiffhaagreat", sum := "cd9ea58b5eff8e903118c535eed24a02144a54b80c7ccebcad91bf5087169953", func := "padlock/padlocklaw11.SnapGoesOn", spec := "snapGoesOn", inPlace := ["slices.overlaps[padlock/api.Session]", "internal/bytealg.abigen_runtime_cmpstring", "slices.overlaps[padlock/api.Lock]", "slices.overlaps[padlock/api.Memo]"], unfollowed := true, recurses := true, apart := false, narrowed := true }
def SnapGoesOnUptoSaid : Prop := snapGoesOnUptoRow.holds Tryz.pinned (OpenSpec.upto snapGoesOnSpec)

end Rows
end Go.Proofs.YtbpmcjeeeiffhaaGreat
