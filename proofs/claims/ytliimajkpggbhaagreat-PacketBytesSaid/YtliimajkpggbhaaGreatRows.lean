/-
  No cell of these rows narrows 'for every input' (looked for: loops, veiled, ifaces, maps, wideKeys, modest, calm, conditions, laid).
  DERIVED. THE GIVEN ROWS OF THIS SEAT. 6 by the template 'for every input the law returns true; each argument reads behind the call as it read before'; 0 by the template 'total and deterministic' (their statements: YtliimajkpggbhaaGreatTotals.lean).
  GIVEN WITH THE SEED: the statements are not yours to turn. If you find one false, say at which input.
  Laid BY PROGRAM, IN A SANDBOX (cutbox-rows.mjs): the forced cells as the released guide's own fill.sh prints them over the translation d188ff3ac0b2ce8a… (all of the seat's roots in one cut). By AI agents, Wed Nov 11 2026. No macro, syntax, notation, axiom, sorry.
-/
import Derived.Test.YtliimajkpggbhaaGreatChecked
import GoSem.Claim
import GoSem.ClaimJoined
import GoSem.ClaimMapViews
import Derived.JoinedTies
import Derived.KernelRfl
namespace Go.Proofs.YtliimajkpggbhaaGreat
/- THE CELL 'sum', in the pinned program and in every row, IS THE sha256 OF THE DUMP (.gsa) THAT YtliimajkpggbhaaGreatProg.lean LOADS. Nothing in Lean hashes anything: it is a label: what it is worth is what the hold of that sum in a sandbox is worth. -/
noncomputable def Tryz.pinned : Pinned := { name := "ytliimajkpggbhaagreat", sum := "d188ff3ac0b2ce8a125ca56e0b7abaee34933f17b65652f0c8d6e7667acfe437", checked := Tryz.checked }
namespace Rows
def none {H : Type} : Left H := { results := [], args := [] }

/-- 'padlocklaw22.PacketAll': WHATEVER THE INPUT: true; the input reads as it did. -/
def packetAllSpec : ChangeSpec := { name := "packetAll", fn := fun _ => fun
  | [d] => { results := [.lit (.bool true)], args := [d] }
  | _ => none }
def packetAllRow : OpenClaim := { program := "ytliimajkpggbhaagreat", sum := "d188ff3ac0b2ce8a125ca56e0b7abaee34933f17b65652f0c8d6e7667acfe437", func := "padlock/padlocklaw22.PacketAll", spec := "packetAll", unfollowed := true, recurses := true, apart := false }
def PacketAllSaid : Prop := packetAllRow.holds Tryz.pinned (OpenSpec.ofChange packetAllSpec)

/-- ITS FALSE NEIGHBOUR: 'it returns false'. Refute it at one input. -/
def packetAllWrong : ChangeSpec := { name := "packetAll", fn := fun _ => fun
  | [d] => { results := [.lit (.bool false)], args := [d] }
  | _ => none }
def PacketAllWrongFalsely : Prop := packetAllRow.holds Tryz.pinned (OpenSpec.ofChange packetAllWrong)

/-- 'padlocklaw22.PacketBytes': WHATEVER THE INPUT: true; the input reads as it did. -/
def packetBytesSpec : ChangeSpec := { name := "packetBytes", fn := fun _ => fun
  | [d1, d2, d3, d4, d5, d6, d7, d8] => { results := [.lit (.bool true)], args := [d1, d2, d3, d4, d5, d6, d7, d8] }
  | _ => none }
def packetBytesRow : OpenClaim := { program := "ytliimajkpggbhaagreat", sum := "d188ff3ac0b2ce8a125ca56e0b7abaee34933f17b65652f0c8d6e7667acfe437", func := "padlock/padlocklaw22.PacketBytes", spec := "packetBytes", unfollowed := true, recurses := true, apart := false }
def PacketBytesSaid : Prop := packetBytesRow.holds Tryz.pinned (OpenSpec.ofChange packetBytesSpec)

/-- ITS FALSE NEIGHBOUR: 'it returns false'. Refute it at one input. -/
def packetBytesWrong : ChangeSpec := { name := "packetBytes", fn := fun _ => fun
  | [d1, d2, d3, d4, d5, d6, d7, d8] => { results := [.lit (.bool false)], args := [d1, d2, d3, d4, d5, d6, d7, d8] }
  | _ => none }
def PacketBytesWrongFalsely : Prop := packetBytesRow.holds Tryz.pinned (OpenSpec.ofChange packetBytesWrong)

/-- 'padlocklaw22.PacketBack': WHATEVER THE INPUT: true; the input reads as it did. -/
def packetBackSpec : ChangeSpec := { name := "packetBack", fn := fun _ => fun
  | [d1, d2, d3, d4, d5, d6] => { results := [.lit (.bool true)], args := [d1, d2, d3, d4, d5, d6] }
  | _ => none }
def packetBackRow : OpenClaim := { program := "ytliimajkpggbhaagreat", sum := "d188ff3ac0b2ce8a125ca56e0b7abaee34933f17b65652f0c8d6e7667acfe437", func := "padlock/padlocklaw22.PacketBack", spec := "packetBack", unfollowed := true, recurses := true, apart := false }
def PacketBackSaid : Prop := packetBackRow.holds Tryz.pinned (OpenSpec.ofChange packetBackSpec)

/-- ITS FALSE NEIGHBOUR: 'it returns false'. Refute it at one input. -/
def packetBackWrong : ChangeSpec := { name := "packetBack", fn := fun _ => fun
  | [d1, d2, d3, d4, d5, d6] => { results := [.lit (.bool false)], args := [d1, d2, d3, d4, d5, d6] }
  | _ => none }
def PacketBackWrongFalsely : Prop := packetBackRow.holds Tryz.pinned (OpenSpec.ofChange packetBackWrong)

/-- 'padlocklaw22.PacketKinds': WHATEVER THE INPUT: true; the input reads as it did. -/
def packetKindsSpec : ChangeSpec := { name := "packetKinds", fn := fun _ => fun
  | [d1, d2, d3, d4, d5, d6] => { results := [.lit (.bool true)], args := [d1, d2, d3, d4, d5, d6] }
  | _ => none }
def packetKindsRow : OpenClaim := { program := "ytliimajkpggbhaagreat", sum := "d188ff3ac0b2ce8a125ca56e0b7abaee34933f17b65652f0c8d6e7667acfe437", func := "padlock/padlocklaw22.PacketKinds", spec := "packetKinds", unfollowed := true, recurses := true, apart := false }
def PacketKindsSaid : Prop := packetKindsRow.holds Tryz.pinned (OpenSpec.ofChange packetKindsSpec)

/-- ITS FALSE NEIGHBOUR: 'it returns false'. Refute it at one input. -/
def packetKindsWrong : ChangeSpec := { name := "packetKinds", fn := fun _ => fun
  | [d1, d2, d3, d4, d5, d6] => { results := [.lit (.bool false)], args := [d1, d2, d3, d4, d5, d6] }
  | _ => none }
def PacketKindsWrongFalsely : Prop := packetKindsRow.holds Tryz.pinned (OpenSpec.ofChange packetKindsWrong)

/-- 'padlocklaw22.PacketFields': WHATEVER THE INPUT: true; the input reads as it did. -/
def packetFieldsSpec : ChangeSpec := { name := "packetFields", fn := fun _ => fun
  | [d1, d2, d3, d4, d5, d6] => { results := [.lit (.bool true)], args := [d1, d2, d3, d4, d5, d6] }
  | _ => none }
def packetFieldsRow : OpenClaim := { program := "ytliimajkpggbhaagreat", sum := "d188ff3ac0b2ce8a125ca56e0b7abaee34933f17b65652f0c8d6e7667acfe437", func := "padlock/padlocklaw22.PacketFields", spec := "packetFields", unfollowed := true, recurses := true, apart := false }
def PacketFieldsSaid : Prop := packetFieldsRow.holds Tryz.pinned (OpenSpec.ofChange packetFieldsSpec)

/-- ITS FALSE NEIGHBOUR: 'it returns false'. Refute it at one input. -/
def packetFieldsWrong : ChangeSpec := { name := "packetFields", fn := fun _ => fun
  | [d1, d2, d3, d4, d5, d6] => { results := [.lit (.bool false)], args := [d1, d2, d3, d4, d5, d6] }
  | _ => none }
def PacketFieldsWrongFalsely : Prop := packetFieldsRow.holds Tryz.pinned (OpenSpec.ofChange packetFieldsWrong)

/-- 'padlocklaw22.PacketLong': WHATEVER THE INPUT: true; the input reads as it did. -/
def packetLongSpec : ChangeSpec := { name := "packetLong", fn := fun _ => fun
  | [d1, d2] => { results := [.lit (.bool true)], args := [d1, d2] }
  | _ => none }
def packetLongRow : OpenClaim := { program := "ytliimajkpggbhaagreat", sum := "d188ff3ac0b2ce8a125ca56e0b7abaee34933f17b65652f0c8d6e7667acfe437", func := "padlock/padlocklaw22.PacketLong", spec := "packetLong", unfollowed := true, recurses := true, apart := false }
def PacketLongSaid : Prop := packetLongRow.holds Tryz.pinned (OpenSpec.ofChange packetLongSpec)

/-- ITS FALSE NEIGHBOUR: 'it returns false'. Refute it at one input. -/
def packetLongWrong : ChangeSpec := { name := "packetLong", fn := fun _ => fun
  | [d1, d2] => { results := [.lit (.bool false)], args := [d1, d2] }
  | _ => none }
def PacketLongWrongFalsely : Prop := packetLongRow.holds Tryz.pinned (OpenSpec.ofChange packetLongWrong)

/- THE SECOND FORM. 'bulk': how many values and letters a reading holds, each counted each time it is reached (what is shared counts as often as it is met; a slice's spare places count too). A statement '..UptoSaid' is the law's where the arguments, and the package variables that the reading takes, are together of bulk at most 1048576: NARROWER than '..Said'. Prove '..Said' where nothing that the law and all that it calls make is longer than what came in: it says more and counts as full. Else prove '..UptoSaid'. A law counts once. -/
mutual
def uptoBulk {H : Type} : DataW H → Nat
  | .lit (.string bytes) => bytes.length + 1
  | .lit _ => 1
  | .nil => 1
  | .ptr d => uptoBulk d + 1
  | .slice elems spare => uptoBulkAll elems + uptoBulkAll spare + 1
  | .agg parts => uptoBulkAll parts + 1
  | .iface _ d => uptoBulk d + 1
  | .map entries => uptoBulkEntries entries + 1
  | .held _ => 1
def uptoBulkAll {H : Type} : List (DataW H) → Nat
  | [] => 0
  | d :: r => uptoBulk d + uptoBulkAll r
def uptoBulkEntries {H : Type} : List (Lit × DataW H) → Nat
  | [] => 0
  | x :: r => uptoBulkEntry x + uptoBulkEntries r
def uptoBulkEntry {H : Type} : Lit × DataW H → Nat
  | (.string bytes, d) => bytes.length + uptoBulk d + 1
  | (_, d) => uptoBulk d + 1
 end
def uptoSmall : (H : Type) → List (DataW H) → Bool := fun _ ds => decide (uptoBulkAll ds ≤ 1048576)
def OpenSpec.upto (s : _root_.Go.ChangeSpec) : _root_.Go.OpenSpec := { _root_.Go.OpenSpec.ofChange s with cond := some uptoSmall }

/-- 'padlocklaw22.PacketAll', WHERE WHAT IT READS IS OF BULK AT MOST 1048576: true; the input reads as it did. -/
def packetAllUptoRow : OpenClaim := { program := "ytliimajkpggbhaagreat", sum := "d188ff3ac0b2ce8a125ca56e0b7abaee34933f17b65652f0c8d6e7667acfe437", func := "padlock/padlocklaw22.PacketAll", spec := "packetAll", unfollowed := true, recurses := true, apart := false, narrowed := true }
def PacketAllUptoSaid : Prop := packetAllUptoRow.holds Tryz.pinned (OpenSpec.upto packetAllSpec)

/-- 'padlocklaw22.PacketBytes', WHERE WHAT IT READS IS OF BULK AT MOST 1048576: true; the input reads as it did. -/
def packetBytesUptoRow : OpenClaim := { program := "ytliimajkpggbhaagreat", sum := "d188ff3ac0b2ce8a125ca56e0b7abaee34933f17b65652f0c8d6e7667acfe437", func := "padlock/padlocklaw22.PacketBytes", spec := "packetBytes", unfollowed := true, recurses := true, apart := false, narrowed := true }
def PacketBytesUptoSaid : Prop := packetBytesUptoRow.holds Tryz.pinned (OpenSpec.upto packetBytesSpec)

/-- 'padlocklaw22.PacketBack', WHERE WHAT IT READS IS OF BULK AT MOST 1048576: true; the input reads as it did. -/
def packetBackUptoRow : OpenClaim := { program := "ytliimajkpggbhaagreat", sum := "d188ff3ac0b2ce8a125ca56e0b7abaee34933f17b65652f0c8d6e7667acfe437", func := "padlock/padlocklaw22.PacketBack", spec := "packetBack", unfollowed := true, recurses := true, apart := false, narrowed := true }
def PacketBackUptoSaid : Prop := packetBackUptoRow.holds Tryz.pinned (OpenSpec.upto packetBackSpec)

/-- 'padlocklaw22.PacketKinds', WHERE WHAT IT READS IS OF BULK AT MOST 1048576: true; the input reads as it did. -/
def packetKindsUptoRow : OpenClaim := { program := "ytliimajkpggbhaagreat", sum := "d188ff3ac0b2ce8a125ca56e0b7abaee34933f17b65652f0c8d6e7667acfe437", func := "padlock/padlocklaw22.PacketKinds", spec := "packetKinds", unfollowed := true, recurses := true, apart := false, narrowed := true }
def PacketKindsUptoSaid : Prop := packetKindsUptoRow.holds Tryz.pinned (OpenSpec.upto packetKindsSpec)

/-- 'padlocklaw22.PacketFields', WHERE WHAT IT READS IS OF BULK AT MOST 1048576: true; the input reads as it did. -/
def packetFieldsUptoRow : OpenClaim := { program := "ytliimajkpggbhaagreat", sum := "d188ff3ac0b2ce8a125ca56e0b7abaee34933f17b65652f0c8d6e7667acfe437", func := "padlock/padlocklaw22.PacketFields", spec := "packetFields", unfollowed := true, recurses := true, apart := false, narrowed := true }
def PacketFieldsUptoSaid : Prop := packetFieldsUptoRow.holds Tryz.pinned (OpenSpec.upto packetFieldsSpec)

/-- 'padlocklaw22.PacketLong', WHERE WHAT IT READS IS OF BULK AT MOST 1048576: true; the input reads as it did. -/
def packetLongUptoRow : OpenClaim := { program := "ytliimajkpggbhaagreat", sum := "d188ff3ac0b2ce8a125ca56e0b7abaee34933f17b65652f0c8d6e7667acfe437", func := "padlock/padlocklaw22.PacketLong", spec := "packetLong", unfollowed := true, recurses := true, apart := false, narrowed := true }
def PacketLongUptoSaid : Prop := packetLongUptoRow.holds Tryz.pinned (OpenSpec.upto packetLongSpec)

end Rows
end Go.Proofs.YtliimajkpggbhaaGreat
