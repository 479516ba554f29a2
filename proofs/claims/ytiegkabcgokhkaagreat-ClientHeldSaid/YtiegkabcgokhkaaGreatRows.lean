/-
  No cell of these rows narrows 'for every input' (looked for: loops, veiled, ifaces, maps, wideKeys, modest, calm, conditions, laid).
  DERIVED. THE GIVEN ROWS OF THIS SEAT. 6 by the template 'for every input the law returns true; each argument reads behind the call as it read before'; 0 by the template 'total and deterministic' (their statements: YtiegkabcgokhkaaGreatTotals.lean).
  GIVEN WITH THE SEED: the statements are not yours to turn. If you find one false, say at which input.
  Laid BY PROGRAM, IN A SANDBOX (cutbox-rows.mjs): the forced cells as the released guide's own fill.sh prints them over the translation 0794c610d48760fd… (all of the seat's roots in one cut). By AI agents, Wed Nov 11 2026. No macro, syntax, notation, axiom, sorry.
-/
import Derived.Test.YtiegkabcgokhkaaGreatChecked
import GoSem.Claim
import GoSem.ClaimJoined
import GoSem.ClaimMapViews
import Derived.JoinedTies
import Derived.KernelRfl
namespace Go.Proofs.YtiegkabcgokhkaaGreat
/- THE CELL 'sum', in the pinned program and in every row, IS THE sha256 OF THE DUMP (.gsa) THAT YtiegkabcgokhkaaGreatProg.lean LOADS. Nothing in Lean hashes anything: it is a label: what it is worth is what the hold of that sum in a sandbox is worth. -/
noncomputable def Tryz.pinned : Pinned := { name := "ytiegkabcgokhkaagreat", sum := "0794c610d48760fdb715d4c6e3f39cc5639608d9fe5d53e4c164f6a53dc02eb4", checked := Tryz.checked }
namespace Rows
def none {H : Type} : Left H := { results := [], args := [] }

/-- 'padlocklaw25.ClientOne': WHATEVER THE INPUT: true; the input reads as it did. -/
def clientOneSpec : ChangeSpec := { name := "clientOne", fn := fun _ => fun
  | [d] => { results := [.lit (.bool true)], args := [d] }
  | _ => none }
def clientOneRow : OpenClaim := { program := "ytiegkabcgokhkaagreat", sum := "0794c610d48760fdb715d4c6e3f39cc5639608d9fe5d53e4c164f6a53dc02eb4", func := "padlock/padlocklaw25.ClientOne", spec := "clientOne", unfollowed := true, recurses := true, apart := false }
def ClientOneSaid : Prop := clientOneRow.holds Tryz.pinned (OpenSpec.ofChange clientOneSpec)

/-- ITS FALSE NEIGHBOUR: 'it returns false'. Refute it at one input. -/
def clientOneWrong : ChangeSpec := { name := "clientOne", fn := fun _ => fun
  | [d] => { results := [.lit (.bool false)], args := [d] }
  | _ => none }
def ClientOneWrongFalsely : Prop := clientOneRow.holds Tryz.pinned (OpenSpec.ofChange clientOneWrong)

/-- 'padlocklaw25.ClientHeld': WHATEVER THE INPUT: true; the input reads as it did. -/
def clientHeldSpec : ChangeSpec := { name := "clientHeld", fn := fun _ => fun
  | [d1, d2, d3] => { results := [.lit (.bool true)], args := [d1, d2, d3] }
  | _ => none }
def clientHeldRow : OpenClaim := { program := "ytiegkabcgokhkaagreat", sum := "0794c610d48760fdb715d4c6e3f39cc5639608d9fe5d53e4c164f6a53dc02eb4", func := "padlock/padlocklaw25.ClientHeld", spec := "clientHeld", unfollowed := true, recurses := true, apart := false }
def ClientHeldSaid : Prop := clientHeldRow.holds Tryz.pinned (OpenSpec.ofChange clientHeldSpec)

/-- ITS FALSE NEIGHBOUR: 'it returns false'. Refute it at one input. -/
def clientHeldWrong : ChangeSpec := { name := "clientHeld", fn := fun _ => fun
  | [d1, d2, d3] => { results := [.lit (.bool false)], args := [d1, d2, d3] }
  | _ => none }
def ClientHeldWrongFalsely : Prop := clientHeldRow.holds Tryz.pinned (OpenSpec.ofChange clientHeldWrong)

/-- 'padlocklaw25.ClientLets': WHATEVER THE INPUT: true; the input reads as it did. -/
def clientLetsSpec : ChangeSpec := { name := "clientLets", fn := fun _ => fun
  | [d1, d2, d3] => { results := [.lit (.bool true)], args := [d1, d2, d3] }
  | _ => none }
def clientLetsRow : OpenClaim := { program := "ytiegkabcgokhkaagreat", sum := "0794c610d48760fdb715d4c6e3f39cc5639608d9fe5d53e4c164f6a53dc02eb4", func := "padlock/padlocklaw25.ClientLets", spec := "clientLets", unfollowed := true, recurses := true, apart := false }
def ClientLetsSaid : Prop := clientLetsRow.holds Tryz.pinned (OpenSpec.ofChange clientLetsSpec)

/-- ITS FALSE NEIGHBOUR: 'it returns false'. Refute it at one input. -/
def clientLetsWrong : ChangeSpec := { name := "clientLets", fn := fun _ => fun
  | [d1, d2, d3] => { results := [.lit (.bool false)], args := [d1, d2, d3] }
  | _ => none }
def ClientLetsWrongFalsely : Prop := clientLetsRow.holds Tryz.pinned (OpenSpec.ofChange clientLetsWrong)

/-- 'padlocklaw25.ClientRuns': WHATEVER THE INPUT: true; the input reads as it did. -/
def clientRunsSpec : ChangeSpec := { name := "clientRuns", fn := fun _ => fun
  | [d1, d2, d3, d4] => { results := [.lit (.bool true)], args := [d1, d2, d3, d4] }
  | _ => none }
def clientRunsRow : OpenClaim := { program := "ytiegkabcgokhkaagreat", sum := "0794c610d48760fdb715d4c6e3f39cc5639608d9fe5d53e4c164f6a53dc02eb4", func := "padlock/padlocklaw25.ClientRuns", spec := "clientRuns", unfollowed := true, recurses := true, apart := false }
def ClientRunsSaid : Prop := clientRunsRow.holds Tryz.pinned (OpenSpec.ofChange clientRunsSpec)

/-- ITS FALSE NEIGHBOUR: 'it returns false'. Refute it at one input. -/
def clientRunsWrong : ChangeSpec := { name := "clientRuns", fn := fun _ => fun
  | [d1, d2, d3, d4] => { results := [.lit (.bool false)], args := [d1, d2, d3, d4] }
  | _ => none }
def ClientRunsWrongFalsely : Prop := clientRunsRow.holds Tryz.pinned (OpenSpec.ofChange clientRunsWrong)

/-- 'padlocklaw25.ClientLoses': WHATEVER THE INPUT: true; the input reads as it did. -/
def clientLosesSpec : ChangeSpec := { name := "clientLoses", fn := fun _ => fun
  | [d1, d2] => { results := [.lit (.bool true)], args := [d1, d2] }
  | _ => none }
def clientLosesRow : OpenClaim := { program := "ytiegkabcgokhkaagreat", sum := "0794c610d48760fdb715d4c6e3f39cc5639608d9fe5d53e4c164f6a53dc02eb4", func := "padlock/padlocklaw25.ClientLoses", spec := "clientLoses", unfollowed := true, recurses := true, apart := false }
def ClientLosesSaid : Prop := clientLosesRow.holds Tryz.pinned (OpenSpec.ofChange clientLosesSpec)

/-- ITS FALSE NEIGHBOUR: 'it returns false'. Refute it at one input. -/
def clientLosesWrong : ChangeSpec := { name := "clientLoses", fn := fun _ => fun
  | [d1, d2] => { results := [.lit (.bool false)], args := [d1, d2] }
  | _ => none }
def ClientLosesWrongFalsely : Prop := clientLosesRow.holds Tryz.pinned (OpenSpec.ofChange clientLosesWrong)

/-- 'padlocklaw25.ClientRefuses': WHATEVER THE INPUT: true; the input reads as it did. -/
def clientRefusesSpec : ChangeSpec := { name := "clientRefuses", fn := fun _ => fun
  | [d1, d2, d3, d4] => { results := [.lit (.bool true)], args := [d1, d2, d3, d4] }
  | _ => none }
def clientRefusesRow : OpenClaim := { program := "ytiegkabcgokhkaagreat", sum := "0794c610d48760fdb715d4c6e3f39cc5639608d9fe5d53e4c164f6a53dc02eb4", func := "padlock/padlocklaw25.ClientRefuses", spec := "clientRefuses", unfollowed := true, recurses := true, apart := false }
def ClientRefusesSaid : Prop := clientRefusesRow.holds Tryz.pinned (OpenSpec.ofChange clientRefusesSpec)

/-- ITS FALSE NEIGHBOUR: 'it returns false'. Refute it at one input. -/
def clientRefusesWrong : ChangeSpec := { name := "clientRefuses", fn := fun _ => fun
  | [d1, d2, d3, d4] => { results := [.lit (.bool false)], args := [d1, d2, d3, d4] }
  | _ => none }
def ClientRefusesWrongFalsely : Prop := clientRefusesRow.holds Tryz.pinned (OpenSpec.ofChange clientRefusesWrong)

/- THE SECOND FORM. 'bulk': how many values and letters a reading holds, each counted each time it is reached (what is shared counts as often as it is met; a slice's spare places count too). A statement '..UptoSaid' is the law's where the arguments, and the package variables that the reading takes, are together of bulk at most 1048576: NARROWER than '..Said'. Prove '..Said' where nothing that the law and all that it calls make is longer than what came in: it says more and counts as full. Else prove '..UptoSaid'. A law counts once. -/
mutual
def uptoBulk {H : Type} : DataW H → Nat
  | .lit (.string bytes) => bytes.length + 1
  | .lit _ => 1
  | .nil => 1
  | .ptr d => uptoBulk d + 1
  | .slice elems spare => uptoBulkAll elems + uptoBulkAll spare + 1
  | .agg parts => uptoBulkAll parts + 1
  | .iface _ d => uptoBulk d + 1
  | .map entries => uptoBulkEntries entries + 1
  | .held _ => 1
def uptoBulkAll {H : Type} : List (DataW H) → Nat
  | [] => 0
  | d :: r => uptoBulk d + uptoBulkAll r
def uptoBulkEntries {H : Type} : List (Lit × DataW H) → Nat
  | [] => 0
  | x :: r => uptoBulkEntry x + uptoBulkEntries r
def uptoBulkEntry {H : Type} : Lit × DataW H → Nat
  | (.string bytes, d) => bytes.length + uptoBulk d + 1
  | (_, d) => uptoBulk d + 1
 end
def uptoSmall : (H : Type) → List (DataW H) → Bool := fun _ ds => decide (uptoBulkAll ds ≤ 1048576)
def OpenSpec.upto (s : _root_.Go.ChangeSpec) : _root_.Go.OpenSpec := { _root_.Go.OpenSpec.ofChange s with cond := some uptoSmall }

/-- 'padlocklaw25.ClientOne', WHERE WHAT IT READS IS OF BULK AT MOST 1048576: true; the input reads as it did. -/
def clientOneUptoRow : OpenClaim := { program := "ytiegkabcgokhkaagreat", sum := "0794c610d48760fdb715d4c6e3f39cc5639608d9fe5d53e4c164f6a53dc02eb4", func := "padlock/padlocklaw25.ClientOne", spec := "clientOne", unfollowed := true, recurses := true, apart := false, narrowed := true }
def ClientOneUptoSaid : Prop := clientOneUptoRow.holds Tryz.pinned (OpenSpec.upto clientOneSpec)

/-- 'padlocklaw25.ClientHeld', WHERE WHAT IT READS IS OF BULK AT MOST 1048576: true; the input reads as it did. -/
def clientHeldUptoRow : OpenClaim := { program := "ytiegkabcgokhkaagreat", sum := "0794c610d48760fdb715d4c6e3f39cc5639608d9fe5d53e4c164f6a53dc02eb4", func := "padlock/padlocklaw25.ClientHeld", spec := "clientHeld", unfollowed := true, recurses := true, apart := false, narrowed := true }
def ClientHeldUptoSaid : Prop := clientHeldUptoRow.holds Tryz.pinned (OpenSpec.upto clientHeldSpec)

/-- 'padlocklaw25.ClientLets', WHERE WHAT IT READS IS OF BULK AT MOST 1048576: true; the input reads as it did. -/
def clientLetsUptoRow : OpenClaim := { program := "ytiegkabcgokhkaagreat", sum := "0794c610d48760fdb715d4c6e3f39cc5639608d9fe5d53e4c164f6a53dc02eb4", func := "padlock/padlocklaw25.ClientLets", spec := "clientLets", unfollowed := true, recurses := true, apart := false, narrowed := true }
def ClientLetsUptoSaid : Prop := clientLetsUptoRow.holds Tryz.pinned (OpenSpec.upto clientLetsSpec)

/-- 'padlocklaw25.ClientRuns', WHERE WHAT IT READS IS OF BULK AT MOST 1048576: true; the input reads as it did. -/
def clientRunsUptoRow : OpenClaim := { program := "ytiegkabcgokhkaagreat", sum := "0794c610d48760fdb715d4c6e3f39cc5639608d9fe5d53e4c164f6a53dc02eb4", func := "padlock/padlocklaw25.ClientRuns", spec := "clientRuns", unfollowed := true, recurses := true, apart := false, narrowed := true }
def ClientRunsUptoSaid : Prop := clientRunsUptoRow.holds Tryz.pinned (OpenSpec.upto clientRunsSpec)

/-- 'padlocklaw25.ClientLoses', WHERE WHAT IT READS IS OF BULK AT MOST 1048576: true; the input reads as it did. -/
def clientLosesUptoRow : OpenClaim := { program := "ytiegkabcgokhkaagreat", sum := "0794c610d48760fdb715d4c6e3f39cc5639608d9fe5d53e4c164f6a53dc02eb4", func := "padlock/padlocklaw25.ClientLoses", spec := "clientLoses", unfollowed := true, recurses := true, apart := false, narrowed := true }
def ClientLosesUptoSaid : Prop := clientLosesUptoRow.holds Tryz.pinned (OpenSpec.upto clientLosesSpec)

/-- 'padlocklaw25.ClientRefuses', WHERE WHAT IT READS IS OF BULK AT MOST 1048576: true; the input reads as it did. -/
def clientRefusesUptoRow : OpenClaim := { program := "ytiegkabcgokhkaagreat", sum := "0794c610d48760fdb715d4c6e3f39cc5639608d9fe5d53e4c164f6a53dc02eb4", func := "padlock/padlocklaw25.ClientRefuses", spec := "clientRefuses", unfollowed := true, recurses := true, apart := false, narrowed := true }
def ClientRefusesUptoSaid : Prop := clientRefusesUptoRow.holds Tryz.pinned (OpenSpec.upto clientRefusesSpec)

end Rows
end Go.Proofs.YtiegkabcgokhkaaGreat
