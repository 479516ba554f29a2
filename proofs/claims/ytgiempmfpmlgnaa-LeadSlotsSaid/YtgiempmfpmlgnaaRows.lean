/-
  No cell of these rows narrows 'for every input' (looked for: loops, veiled, ifaces, maps, wideKeys, modest, calm, conditions, laid).
  DERIVED. THE GIVEN ROWS OF THIS SEAT. 4 by the template 'for every input the law returns true; each argument reads behind the call as it read before'; 0 by the template 'total and deterministic' (their statements: YtgiempmfpmlgnaaTotals.lean).
  GIVEN WITH THE SEED: the statements are not yours to turn. If you find one false, say at which input.
  Laid BY PROGRAM, IN A SANDBOX (cutbox-rows.mjs): the forced cells as the released guide's own fill.sh prints them over the translation 710e30bf53de2f2e… (all of the seat's roots in one cut). By AI agents, Wed Nov 11 2026. No macro, syntax, notation, axiom, sorry.
-/
import Derived.Test.YtgiempmfpmlgnaaChecked
import GoSem.Claim
import GoSem.ClaimJoined
import GoSem.ClaimMapViews
import Derived.JoinedTies
import Derived.KernelRfl
namespace Go.Proofs.Ytgiempmfpmlgnaa
/- THE CELL 'sum', in the pinned program and in every row, IS THE sha256 OF THE DUMP (.gsa) THAT YtgiempmfpmlgnaaProg.lean LOADS. Nothing in Lean hashes anything: it is a label: what it is worth is what the hold of that sum in a sandbox is worth. -/
noncomputable def Try.pinned : Pinned := { name := "ytgiempmfpmlgnaa", sum := "710e30bf53de2f2eeb48d9426592b6d6c9b0bae4ad1a46d5fd627a6745863517", checked := Try.checked }
namespace Rows
def none {H : Type} : Left H := { results := [], args := [] }

/-- 'padlocklaw17.LeadSlots': WHATEVER THE INPUT: true; the input reads as it did. -/
def leadSlotsSpec : ChangeSpec := { name := "leadSlots", fn := fun _ => fun
  | [d1, d2, d3, d4, d5] => { results := [.lit (.bool true)], args := [d1, d2, d3, d4, d5] }
  | _ => none }
def leadSlotsRow : OpenClaim := { program := "ytgiempmfpmlgnaa", sum := "710e30bf53de2f2eeb48d9426592b6d6c9b0bae4ad1a46d5fd627a6745863517", func := "padlock/padlocklaw17.LeadSlots", spec := "leadSlots", inPlace := ["slices.overlaps[padlock/api.Promise]"], unfollowed := true, recurses := true, apart := false }
def LeadSlotsSaid : Prop := leadSlotsRow.holds Try.pinned (OpenSpec.ofChange leadSlotsSpec)

/-- ITS FALSE NEIGHBOUR: 'it returns false'. Refute it at one input. -/
def leadSlotsWrong : ChangeSpec := { name := "leadSlots", fn := fun _ => fun
  | [d1, d2, d3, d4, d5] => { results := [.lit (.bool false)], args := [d1, d2, d3, d4, d5] }
  | _ => none }
def LeadSlotsWrongFalsely : Prop := leadSlotsRow.holds Try.pinned (OpenSpec.ofChange leadSlotsWrong)

/-- 'padlocklaw17.LeadQuorum': WHATEVER THE INPUT: true; the input reads as it did. -/
def leadQuorumSpec : ChangeSpec := { name := "leadQuorum", fn := fun _ => fun
  | [d1, d2, d3, d4] => { results := [.lit (.bool true)], args := [d1, d2, d3, d4] }
  | _ => none }
def leadQuorumRow : OpenClaim := { program := "ytgiempmfpmlgnaa", sum := "710e30bf53de2f2eeb48d9426592b6d6c9b0bae4ad1a46d5fd627a6745863517", func := "padlock/padlocklaw17.LeadQuorum", spec := "leadQuorum", inPlace := ["slices.overlaps[padlock/api.Promise]"], unfollowed := true, recurses := true, apart := false }
def LeadQuorumSaid : Prop := leadQuorumRow.holds Try.pinned (OpenSpec.ofChange leadQuorumSpec)

/-- ITS FALSE NEIGHBOUR: 'it returns false'. Refute it at one input. -/
def leadQuorumWrong : ChangeSpec := { name := "leadQuorum", fn := fun _ => fun
  | [d1, d2, d3, d4] => { results := [.lit (.bool false)], args := [d1, d2, d3, d4] }
  | _ => none }
def LeadQuorumWrongFalsely : Prop := leadQuorumRow.holds Try.pinned (OpenSpec.ofChange leadQuorumWrong)

/-- 'padlocklaw17.LeadStops': WHATEVER THE INPUT: true; the input reads as it did. -/
def leadStopsSpec : ChangeSpec := { name := "leadStops", fn := fun _ => fun
  | [d1, d2, d3, d4, d5, d6] => { results := [.lit (.bool true)], args := [d1, d2, d3, d4, d5, d6] }
  | _ => none }
def leadStopsRow : OpenClaim := { program := "ytgiempmfpmlgnaa", sum := "710e30bf53de2f2eeb48d9426592b6d6c9b0bae4ad1a46d5fd627a6745863517", func := "padlock/padlocklaw17.LeadStops", spec := "leadStops", inPlace := ["slices.overlaps[padlock/api.Promise]"], unfollowed := true, recurses := true, apart := false }
def LeadStopsSaid : Prop := leadStopsRow.holds Try.pinned (OpenSpec.ofChange leadStopsSpec)

/-- ITS FALSE NEIGHBOUR: 'it returns false'. Refute it at one input. -/
def leadStopsWrong : ChangeSpec := { name := "leadStops", fn := fun _ => fun
  | [d1, d2, d3, d4, d5, d6] => { results := [.lit (.bool false)], args := [d1, d2, d3, d4, d5, d6] }
  | _ => none }
def LeadStopsWrongFalsely : Prop := leadStopsRow.holds Try.pinned (OpenSpec.ofChange leadStopsWrong)

/-- 'padlocklaw17.LeadRefuses': WHATEVER THE INPUT: true; the input reads as it did. -/
def leadRefusesSpec : ChangeSpec := { name := "leadRefuses", fn := fun _ => fun
  | [d1, d2, d3, d4, d5] => { results := [.lit (.bool true)], args := [d1, d2, d3, d4, d5] }
  | _ => none }
def leadRefusesRow : OpenClaim := { program := "ytgiempmfpmlgnaa", sum := "710e30bf53de2f2eeb48d9426592b6d6c9b0bae4ad1a46d5fd627a6745863517", func := "padlock/padlocklaw17.LeadRefuses", spec := "leadRefuses", inPlace := ["slices.overlaps[padlock/api.Promise]"], unfollowed := true, recurses := true, apart := false }
def LeadRefusesSaid : Prop := leadRefusesRow.holds Try.pinned (OpenSpec.ofChange leadRefusesSpec)

/-- ITS FALSE NEIGHBOUR: 'it returns false'. Refute it at one input. -/
def leadRefusesWrong : ChangeSpec := { name := "leadRefuses", fn := fun _ => fun
  | [d1, d2, d3, d4, d5] => { results := [.lit (.bool false)], args := [d1, d2, d3, d4, d5] }
  | _ => none }
def LeadRefusesWrongFalsely : Prop := leadRefusesRow.holds Try.pinned (OpenSpec.ofChange leadRefusesWrong)

/- THE SECOND FORM. 'bulk': how many values and letters a reading holds, each counted each time it is reached (what is shared counts as often as it is met; a slice's spare places count too). A statement '..UptoSaid' is the law's where the arguments, and the package variables that the reading takes, are together of bulk at most 1048576: NARROWER than '..Said'. Prove '..Said' where nothing that the law and all that it calls make is longer than what came in: it says more and counts as full. Else prove '..UptoSaid'. A law counts once. -/
mutual
def uptoBulk {H : Type} : DataW H → Nat
  | .lit (.string bytes) => bytes.length + 1
  | .lit _ => 1
  | .nil => 1
  | .ptr d => uptoBulk d + 1
  | .slice elems spare => uptoBulkAll elems + uptoBulkAll spare + 1
  | .agg parts => uptoBulkAll parts + 1
  | .iface _ d => uptoBulk d + 1
  | .map entries => uptoBulkEntries entries + 1
  | .held _ => 1
def uptoBulkAll {H : Type} : List (DataW H) → Nat
  | [] => 0
  | d :: r => uptoBulk d + uptoBulkAll r
def uptoBulkEntries {H : Type} : List (Lit × DataW H) → Nat
  | [] => 0
  | x :: r => uptoBulkEntry x + uptoBulkEntries r
def uptoBulkEntry {H : Type} : Lit × DataW H → Nat
  | (.string bytes, d) => bytes.length + uptoBulk d + 1
  | (_, d) => uptoBulk d + 1
 end
def uptoSmall : (H : Type) → List (DataW H) → Bool := fun _ ds => decide (uptoBulkAll ds ≤ 1048576)
def OpenSpec.upto (s : _root_.Go.ChangeSpec) : _root_.Go.OpenSpec := { _root_.Go.OpenSpec.ofChange s with cond := some uptoSmall }

/-- 'padlocklaw17.LeadSlots', WHERE WHAT IT READS IS OF BULK AT MOST 1048576: true; the input reads as it did. -/
def leadSlotsUptoRow : OpenClaim := { program := "ytgiempmfpmlgnaa", sum := "710e30bf53de2f2eeb48d9426592b6d6c9b0bae4ad1a46d5fd627a6745863517", func := "padlock/padlocklaw17.LeadSlots", spec := "leadSlots", inPlace := ["slices.overlaps[padlock/api.Promise]"], unfollowed := true, recurses := true, apart := false, narrowed := true }
def LeadSlotsUptoSaid : Prop := leadSlotsUptoRow.holds Try.pinned (OpenSpec.upto leadSlotsSpec)

/-- 'padlocklaw17.LeadQuorum', WHERE WHAT IT READS IS OF BULK AT MOST 1048576: true; the input reads as it did. -/
def leadQuorumUptoRow : OpenClaim := { program := "ytgiempmfpmlgnaa", sum := "710e30bf53de2f2eeb48d9426592b6d6c9b0bae4ad1a46d5fd627a6745863517", func := "padlock/padlocklaw17.LeadQuorum", spec := "leadQuorum", inPlace := ["slices.overlaps[padlock/api.Promise]"], unfollowed := true, recurses := true, apart := false, narrowed := true }
def LeadQuorumUptoSaid : Prop := leadQuorumUptoRow.holds Try.pinned (OpenSpec.upto leadQuorumSpec)

/-- 'padlocklaw17.LeadStops', WHERE WHAT IT READS IS OF BULK AT MOST 1048576: true; the input reads as it did. -/
def leadStopsUptoRow : OpenClaim := { program := "ytgiempmfpmlgnaa", sum := "710e30bf53de2f2eeb48d9426592b6d6c9b0bae4ad1a46d5fd627a6745863517", func := "padlock/padlocklaw17.LeadStops", spec := "leadStops", inPlace := ["slices.overlaps[padlock/api.Promise]"], unfollowed := true, recurses := true, apart := false, narrowed := true }
def LeadStopsUptoSaid : Prop := leadStopsUptoRow.holds Try.pinned (OpenSpec.upto leadStopsSpec)

/-- 'padlocklaw17.LeadRefuses', WHERE WHAT IT READS IS OF BULK AT MOST 1048576: true; the input reads as it did. -/
def leadRefusesUptoRow : OpenClaim := { program := "ytgiempmfpmlgnaa", sum := "710e30bf53de2f2eeb48d9426592b6d6c9b0bae4ad1a46d5fd627a6745863517", func := "padlock/padlocklaw17.LeadRefuses", spec := "leadRefuses", inPlace := ["slices.overlaps[padlock/api.Promise]"], unfollowed := true, recurses := true, apart := false, narrowed := true }
def LeadRefusesUptoSaid : Prop := leadRefusesUptoRow.holds Try.pinned (OpenSpec.upto leadRefusesSpec)

end Rows
end Go.Proofs.Ytgiempmfpmlgnaa
