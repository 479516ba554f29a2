/-
  No cell of these rows narrows 'for every input' (looked for: loops, veiled, ifaces, maps, wideKeys, modest, calm, conditions, laid).
  DERIVED. THE GIVEN ROWS OF THIS SEAT. 4 by the template 'for every input the law returns true; each argument reads behind the call as it read before'; 0 by the template 'total and deterministic' (their statements: YthlolabfogklgaaTotals.lean).
  GIVEN WITH THE SEED: the statements are not yours to turn. If you find one false, say at which input.
  Laid BY PROGRAM, IN A SANDBOX (cutbox-rows.mjs): the forced cells as the released guide's own fill.sh prints them over the translation c315d2f3f987d40d… (all of the seat's roots in one cut). By AI agents, Wed Nov 11 2026. No macro, syntax, notation, axiom, sorry.
-/
import Derived.Test.YthlolabfogklgaaChecked
import GoSem.Claim
import GoSem.ClaimJoined
import GoSem.ClaimMapViews
import Derived.JoinedTies
import Derived.KernelRfl
namespace Go.Proofs.Ythlolabfogklgaa
/- THE CELL 'sum', in the pinned program and in every row, IS THE sha256 OF THE DUMP (.gsa) THAT YthlolabfogklgaaProg.lean LOADS. Nothing in Lean hashes anything: it is a label: what it is worth is what the hold of that sum in a sandbox is worth. -/
noncomputable def Try.pinned : Pinned := { name := "ythlolabfogklgaa", sum := "c315d2f3f987d40dd67f4a18139c3df107d75b35fab6f661c0c0ebd9a6625e84", checked := Try.checked }
namespace Rows
def none {H : Type} : Left H := { results := [], args := [] }

/-- 'padlocklaw16.PlanRaw': WHATEVER THE INPUT: true; the input reads as it did. -/
def planRawSpec : ChangeSpec := { name := "planRaw", fn := fun _ => fun
  | [d] => { results := [.lit (.bool true)], args := [d] }
  | _ => none }
def planRawRow : OpenClaim := { program := "ythlolabfogklgaa", sum := "c315d2f3f987d40dd67f4a18139c3df107d75b35fab6f661c0c0ebd9a6625e84", func := "padlock/padlocklaw16.PlanRaw", spec := "planRaw", unfollowed := true, recurses := true, apart := false }
def PlanRawSaid : Prop := planRawRow.holds Try.pinned (OpenSpec.ofChange planRawSpec)

/-- ITS FALSE NEIGHBOUR: 'it returns false'. Refute it at one input. -/
def planRawWrong : ChangeSpec := { name := "planRaw", fn := fun _ => fun
  | [d] => { results := [.lit (.bool false)], args := [d] }
  | _ => none }
def PlanRawWrongFalsely : Prop := planRawRow.holds Try.pinned (OpenSpec.ofChange planRawWrong)

/-- 'padlocklaw16.PlanMade': WHATEVER THE INPUT: true; the input reads as it did. -/
def planMadeSpec : ChangeSpec := { name := "planMade", fn := fun _ => fun
  | [d1, d2] => { results := [.lit (.bool true)], args := [d1, d2] }
  | _ => none }
def planMadeRow : OpenClaim := { program := "ythlolabfogklgaa", sum := "c315d2f3f987d40dd67f4a18139c3df107d75b35fab6f661c0c0ebd9a6625e84", func := "padlock/padlocklaw16.PlanMade", spec := "planMade", unfollowed := true, recurses := true, apart := false }
def PlanMadeSaid : Prop := planMadeRow.holds Try.pinned (OpenSpec.ofChange planMadeSpec)

/-- ITS FALSE NEIGHBOUR: 'it returns false'. Refute it at one input. -/
def planMadeWrong : ChangeSpec := { name := "planMade", fn := fun _ => fun
  | [d1, d2] => { results := [.lit (.bool false)], args := [d1, d2] }
  | _ => none }
def PlanMadeWrongFalsely : Prop := planMadeRow.holds Try.pinned (OpenSpec.ofChange planMadeWrong)

/-- 'padlocklaw16.PlanOrder': WHATEVER THE INPUT: true; the input reads as it did. -/
def planOrderSpec : ChangeSpec := { name := "planOrder", fn := fun _ => fun
  | [d1, d2] => { results := [.lit (.bool true)], args := [d1, d2] }
  | _ => none }
def planOrderRow : OpenClaim := { program := "ythlolabfogklgaa", sum := "c315d2f3f987d40dd67f4a18139c3df107d75b35fab6f661c0c0ebd9a6625e84", func := "padlock/padlocklaw16.PlanOrder", spec := "planOrder", unfollowed := true, recurses := true, apart := false }
def PlanOrderSaid : Prop := planOrderRow.holds Try.pinned (OpenSpec.ofChange planOrderSpec)

/-- ITS FALSE NEIGHBOUR: 'it returns false'. Refute it at one input. -/
def planOrderWrong : ChangeSpec := { name := "planOrder", fn := fun _ => fun
  | [d1, d2] => { results := [.lit (.bool false)], args := [d1, d2] }
  | _ => none }
def PlanOrderWrongFalsely : Prop := planOrderRow.holds Try.pinned (OpenSpec.ofChange planOrderWrong)

/-- 'padlocklaw16.PlanChosen': WHATEVER THE INPUT: true; the input reads as it did. -/
def planChosenSpec : ChangeSpec := { name := "planChosen", fn := fun _ => fun
  | [d1, d2, d3, d4, d5, d6, d7] => { results := [.lit (.bool true)], args := [d1, d2, d3, d4, d5, d6, d7] }
  | _ => none }
def planChosenRow : OpenClaim := { program := "ythlolabfogklgaa", sum := "c315d2f3f987d40dd67f4a18139c3df107d75b35fab6f661c0c0ebd9a6625e84", func := "padlock/padlocklaw16.PlanChosen", spec := "planChosen", unfollowed := true, recurses := true, apart := false }
def PlanChosenSaid : Prop := planChosenRow.holds Try.pinned (OpenSpec.ofChange planChosenSpec)

/-- ITS FALSE NEIGHBOUR: 'it returns false'. Refute it at one input. -/
def planChosenWrong : ChangeSpec := { name := "planChosen", fn := fun _ => fun
  | [d1, d2, d3, d4, d5, d6, d7] => { results := [.lit (.bool false)], args := [d1, d2, d3, d4, d5, d6, d7] }
  | _ => none }
def PlanChosenWrongFalsely : Prop := planChosenRow.holds Try.pinned (OpenSpec.ofChange planChosenWrong)

/- THE SECOND FORM. 'bulk': how many values and letters a reading holds, each counted each time it is reached (what is shared counts as often as it is met; a slice's spare places count too). A statement '..UptoSaid' is the law's where the arguments, and the package variables that the reading takes, are together of bulk at most 1048576: NARROWER than '..Said'. Prove '..Said' where nothing that the law and all that it calls make is longer than what came in: it says more and counts as full. Else prove '..UptoSaid'. A law counts once. -/
mutual
def uptoBulk {H : Type} : DataW H → Nat
  | .lit (.string bytes) => bytes.length + 1
  | .lit _ => 1
  | .nil => 1
  | .ptr d => uptoBulk d + 1
  | .slice elems spare => uptoBulkAll elems + uptoBulkAll spare + 1
  | .agg parts => uptoBulkAll parts + 1
  | .iface _ d => uptoBulk d + 1
  | .map entries => uptoBulkEntries entries + 1
  | .held _ => 1
def uptoBulkAll {H : Type} : List (DataW H) → Nat
  | [] => 0
  | d :: r => uptoBulk d + uptoBulkAll r
def uptoBulkEntries {H : Type} : List (Lit × DataW H) → Nat
  | [] => 0
  | x :: r => uptoBulkEntry x + uptoBulkEntries r
def uptoBulkEntry {H : Type} : Lit × DataW H → Nat
  | (.string bytes, d) => bytes.length + uptoBulk d + 1
  | (_, d) => uptoBulk d + 1
 end
def uptoSmall : (H : Type) → List (DataW H) → Bool := fun _ ds => decide (uptoBulkAll ds ≤ 1048576)
def OpenSpec.upto (s : _root_.Go.ChangeSpec) : _root_.Go.OpenSpec := { _root_.Go.OpenSpec.ofChange s with cond := some uptoSmall }

/-- 'padlocklaw16.PlanRaw', WHERE WHAT IT READS IS OF BULK AT MOST 1048576: true; the input reads as it did. -/
def planRawUptoRow : OpenClaim := { program := "ythlolabfogklgaa", sum := "c315d2f3f987d40dd67f4a18139c3df107d75b35fab6f661c0c0ebd9a6625e84", func := "padlock/padlocklaw16.PlanRaw", spec := "planRaw", unfollowed := true, recurses := true, apart := false, narrowed := true }
def PlanRawUptoSaid : Prop := planRawUptoRow.holds Try.pinned (OpenSpec.upto planRawSpec)

/-- 'padlocklaw16.PlanMade', WHERE WHAT IT READS IS OF BULK AT MOST 1048576: true; the input reads as it did. -/
def planMadeUptoRow : OpenClaim := { program := "ythlolabfogklgaa", sum := "c315d2f3f987d40dd67f4a18139c3df107d75b35fab6f661c0c0ebd9a6625e84", func := "padlock/padlocklaw16.PlanMade", spec := "planMade", unfollowed := true, recurses := true, apart := false, narrowed := true }
def PlanMadeUptoSaid : Prop := planMadeUptoRow.holds Try.pinned (OpenSpec.upto planMadeSpec)

/-- 'padlocklaw16.PlanOrder', WHERE WHAT IT READS IS OF BULK AT MOST 1048576: true; the input reads as it did. -/
def planOrderUptoRow : OpenClaim := { program := "ythlolabfogklgaa", sum := "c315d2f3f987d40dd67f4a18139c3df107d75b35fab6f661c0c0ebd9a6625e84", func := "padlock/padlocklaw16.PlanOrder", spec := "planOrder", unfollowed := true, recurses := true, apart := false, narrowed := true }
def PlanOrderUptoSaid : Prop := planOrderUptoRow.holds Try.pinned (OpenSpec.upto planOrderSpec)

/-- 'padlocklaw16.PlanChosen', WHERE WHAT IT READS IS OF BULK AT MOST 1048576: true; the input reads as it did. -/
def planChosenUptoRow : OpenClaim := { program := "ythlolabfogklgaa", sum := "c315d2f3f987d40dd67f4a18139c3df107d75b35fab6f661c0c0ebd9a6625e84", func := "padlock/padlocklaw16.PlanChosen", spec := "planChosen", unfollowed := true, recurses := true, apart := false, narrowed := true }
def PlanChosenUptoSaid : Prop := planChosenUptoRow.holds Try.pinned (OpenSpec.upto planChosenSpec)

end Rows
end Go.Proofs.Ythlolabfogklgaa
