/-
  No cell of these rows narrows 'for every input' (looked for: loops, veiled, ifaces, maps, wideKeys, modest, calm, conditions, laid).
  DERIVED. THE GIVEN ROWS OF THIS SEAT. 5 by the template 'for every input the law returns true; each argument reads behind the call as it read before'; 0 by the template 'total and deterministic' (their statements: YtngleemijkaeoaaGreatTotals.lean).
  GIVEN WITH THE SEED: the statements are not yours to turn. If you find one false, say at which input.
  Laid BY PROGRAM, IN A SANDBOX (cutbox-rows.mjs): the forced cells as the released guide's own fill.sh prints them over the translation 224a6ffd1b82e3ec… (all of the seat's roots in one cut). By AI agents, Wed Nov 11 2026. No macro, syntax, notation, axiom, sorry.
-/
import Derived.Test.YtngleemijkaeoaaGreatChecked
import GoSem.Claim
import GoSem.ClaimJoined
import GoSem.ClaimMapViews
import Derived.JoinedTies
import Derived.KernelRfl
namespace Go.Proofs.YtngleemijkaeoaaGreat
/- THE CELL 'sum', in the pinned program and in every row, IS THE sha256 OF THE DUMP (.gsa) THAT YtngleemijkaeoaaGreatProg.lean LOADS. Nothing in Lean hashes anything: it is a label: what it is worth is what the hold of that sum in a sandbox is worth. -/
noncomputable def Tryz.pinned : Pinned := { name := "ytngleemijkaeoaagreat", sum := "224a6ffd1b82e3ec7b96f6f804a2e6152a69ff67d1c74530acf49c5b9b9dd594", checked := Tryz.checked }
namespace Rows
def none {H : Type} : Left H := { results := [], args := [] }

/-- 'padlocklaw18.ExecOnce': WHATEVER THE INPUT: true; the input reads as it did. -/
def execOnceSpec : ChangeSpec := { name := "execOnce", fn := fun _ => fun
  | [d1, d2] => { results := [.lit (.bool true)], args := [d1, d2] }
  | _ => none }
def execOnceRow : OpenClaim := { program := "ytngleemijkaeoaagreat", sum := "224a6ffd1b82e3ec7b96f6f804a2e6152a69ff67d1c74530acf49c5b9b9dd594", func := "padlock/padlocklaw18.ExecOnce", spec := "execOnce", inPlace := ["slices.overlaps[padlock/api.Session]", "internal/bytealg.abigen_runtime_cmpstring", "slices.overlaps[padlock/api.Lock]", "slices.overlaps[padlock/api.Memo]"], unfollowed := true, recurses := true, apart := false }
def ExecOnceSaid : Prop := execOnceRow.holds Tryz.pinned (OpenSpec.ofChange execOnceSpec)

/-- ITS FALSE NEIGHBOUR: 'it returns false'. Refute it at one input. -/
def execOnceWrong : ChangeSpec := { name := "execOnce", fn := fun _ => fun
  | [d1, d2] => { results := [.lit (.bool false)], args := [d1, d2] }
  | _ => none }
def ExecOnceWrongFalsely : Prop := execOnceRow.holds Tryz.pinned (OpenSpec.ofChange execOnceWrong)

/-- 'padlocklaw18.ExecRuns': WHATEVER THE INPUT: true; the input reads as it did. -/
def execRunsSpec : ChangeSpec := { name := "execRuns", fn := fun _ => fun
  | [d1, d2, d3] => { results := [.lit (.bool true)], args := [d1, d2, d3] }
  | _ => none }
def execRunsRow : OpenClaim := { program := "ytngleemijkaeoaagreat", sum := "224a6ffd1b82e3ec7b96f6f804a2e6152a69ff67d1c74530acf49c5b9b9dd594", func := "padlock/padlocklaw18.ExecRuns", spec := "execRuns", inPlace := ["slices.overlaps[padlock/api.Session]", "internal/bytealg.abigen_runtime_cmpstring", "slices.overlaps[padlock/api.Lock]", "slices.overlaps[padlock/api.Memo]"], unfollowed := true, recurses := true, apart := false }
def ExecRunsSaid : Prop := execRunsRow.holds Tryz.pinned (OpenSpec.ofChange execRunsSpec)

/-- ITS FALSE NEIGHBOUR: 'it returns false'. Refute it at one input. -/
def execRunsWrong : ChangeSpec := { name := "execRuns", fn := fun _ => fun
  | [d1, d2, d3] => { results := [.lit (.bool false)], args := [d1, d2, d3] }
  | _ => none }
def ExecRunsWrongFalsely : Prop := execRunsRow.holds Tryz.pinned (OpenSpec.ofChange execRunsWrong)

/-- 'padlocklaw18.ExecVoid': WHATEVER THE INPUT: true; the input reads as it did. -/
def execVoidSpec : ChangeSpec := { name := "execVoid", fn := fun _ => fun
  | [d1, d2, d3] => { results := [.lit (.bool true)], args := [d1, d2, d3] }
  | _ => none }
def execVoidRow : OpenClaim := { program := "ytngleemijkaeoaagreat", sum := "224a6ffd1b82e3ec7b96f6f804a2e6152a69ff67d1c74530acf49c5b9b9dd594", func := "padlock/padlocklaw18.ExecVoid", spec := "execVoid", inPlace := ["slices.overlaps[padlock/api.Session]", "internal/bytealg.abigen_runtime_cmpstring", "slices.overlaps[padlock/api.Lock]", "slices.overlaps[padlock/api.Memo]"], unfollowed := true, recurses := true, apart := false }
def ExecVoidSaid : Prop := execVoidRow.holds Tryz.pinned (OpenSpec.ofChange execVoidSpec)

/-- ITS FALSE NEIGHBOUR: 'it returns false'. Refute it at one input. -/
def execVoidWrong : ChangeSpec := { name := "execVoid", fn := fun _ => fun
  | [d1, d2, d3] => { results := [.lit (.bool false)], args := [d1, d2, d3] }
  | _ => none }
def ExecVoidWrongFalsely : Prop := execVoidRow.holds Tryz.pinned (OpenSpec.ofChange execVoidWrong)

/-- 'padlocklaw18.ExecParts': WHATEVER THE INPUT: true; the input reads as it did. -/
def execPartsSpec : ChangeSpec := { name := "execParts", fn := fun _ => fun
  | [d1, d2] => { results := [.lit (.bool true)], args := [d1, d2] }
  | _ => none }
def execPartsRow : OpenClaim := { program := "ytngleemijkaeoaagreat", sum := "224a6ffd1b82e3ec7b96f6f804a2e6152a69ff67d1c74530acf49c5b9b9dd594", func := "padlock/padlocklaw18.ExecParts", spec := "execParts", inPlace := ["slices.overlaps[padlock/api.Session]", "internal/bytealg.abigen_runtime_cmpstring", "slices.overlaps[padlock/api.Lock]", "slices.overlaps[padlock/api.Memo]"], unfollowed := true, recurses := true, apart := false }
def ExecPartsSaid : Prop := execPartsRow.holds Tryz.pinned (OpenSpec.ofChange execPartsSpec)

/-- ITS FALSE NEIGHBOUR: 'it returns false'. Refute it at one input. -/
def execPartsWrong : ChangeSpec := { name := "execParts", fn := fun _ => fun
  | [d1, d2] => { results := [.lit (.bool false)], args := [d1, d2] }
  | _ => none }
def ExecPartsWrongFalsely : Prop := execPartsRow.holds Tryz.pinned (OpenSpec.ofChange execPartsWrong)

/-- 'padlocklaw18.ExecRestore': WHATEVER THE INPUT: true; the input reads as it did. -/
def execRestoreSpec : ChangeSpec := { name := "execRestore", fn := fun _ => fun
  | [d1, d2, d3, d4, d5, d6] => { results := [.lit (.bool true)], args := [d1, d2, d3, d4, d5, d6] }
  | _ => none }
def execRestoreRow : OpenClaim := { program := "ytngleemijkaeoaagreat", sum := "224a6ffd1b82e3ec7b96f6f804a2e6152a69ff67d1c74530acf49c5b9b9dd594", func := "padlock/padlocklaw18.ExecRestore", spec := "execRestore", inPlace := ["slices.overlaps[padlock/api.Session]", "internal/bytealg.abigen_runtime_cmpstring", "slices.overlaps[padlock/api.Lock]", "slices.overlaps[padlock/api.Memo]"], unfollowed := true, recurses := true, apart := false }
def ExecRestoreSaid : Prop := execRestoreRow.holds Tryz.pinned (OpenSpec.ofChange execRestoreSpec)

/-- ITS FALSE NEIGHBOUR: 'it returns false'. Refute it at one input. -/
def execRestoreWrong : ChangeSpec := { name := "execRestore", fn := fun _ => fun
  | [d1, d2, d3, d4, d5, d6] => { results := [.lit (.bool false)], args := [d1, d2, d3, d4, d5, d6] }
  | _ => none }
def ExecRestoreWrongFalsely : Prop := execRestoreRow.holds Tryz.pinned (OpenSpec.ofChange execRestoreWrong)

/- THE SECOND FORM. 'bulk': how many values and letters a reading holds, each counted each time it is reached (what is shared counts as often as it is met; a slice's spare places count too). A statement '..UptoSaid' is the law's where the arguments, and the package variables that the reading takes, are together of bulk at most 1048576: NARROWER than '..Said'. Prove '..Said' where nothing that the law and all that it calls make is longer than what came in: it says more and counts as full. Else prove '..UptoSaid'. A law counts once. -/
mutual
def uptoBulk {H : Type} : DataW H → Nat
  | .lit (.string bytes) => bytes.length + 1
  | .lit _ => 1
  | .nil => 1
  | .ptr d => uptoBulk d + 1
  | .slice elems spare => uptoBulkAll elems + uptoBulkAll spare + 1
  | .agg parts => uptoBulkAll parts + 1
  | .iface _ d => uptoBulk d + 1
  | .map entries => uptoBulkEntries entries + 1
  | .held _ => 1
def uptoBulkAll {H : Type} : List (DataW H) → Nat
  | [] => 0
  | d :: r => uptoBulk d + uptoBulkAll r
def uptoBulkEntries {H : Type} : List (Lit × DataW H) → Nat
  | [] => 0
  | x :: r => uptoBulkEntry x + uptoBulkEntries r
def uptoBulkEntry {H : Type} : Lit × DataW H → Nat
  | (.string bytes, d) => bytes.length + uptoBulk d + 1
  | (_, d) => uptoBulk d + 1
 end
def uptoSmall : (H : Type) → List (DataW H) → Bool := fun _ ds => decide (uptoBulkAll ds ≤ 1048576)
def OpenSpec.upto (s : _root_.Go.ChangeSpec) : _root_.Go.OpenSpec := { _root_.Go.OpenSpec.ofChange s with cond := some uptoSmall }

/-- 'padlocklaw18.ExecOnce', WHERE WHAT IT READS IS OF BULK AT MOST 1048576: true; the input reads as it did. -/
def execOnceUptoRow : OpenClaim := { program := "ytngleemijkaeoaagreat", sum := "224a6ffd1b82e3ec7b96f6f804a2e6152a69ff67d1c74530acf49c5b9b9dd594", func := "padlock/padlocklaw18.ExecOnce", spec := "execOnce", inPlace := ["slices.overlaps[padlock/api.Session]", "internal/bytealg.abigen_runtime_cmpstring", "slices.overlaps[padlock/api.Lock]", "slices.overlaps[padlock/api.Memo]"], unfollowed := true, recurses := true, apart := false, narrowed := true }
def ExecOnceUptoSaid : Prop := execOnceUptoRow.holds Tryz.pinned (OpenSpec.upto execOnceSpec)

/-- 'padlocklaw18.ExecRuns', WHERE WHAT IT READS IS OF BULK AT MOST 1048576: true; the input reads as it did. -/
def execRunsUptoRow : OpenClaim := { program := "ytngleemijkaeoaagreat", sum := "224a6ffd1b82e3ec7b96f6f804a2e6152a69ff67d1c74530acf49c5b9b9dd594", func := "padlock/padlocklaw18.ExecRuns", spec := "execRuns", inPlace := ["slices.overlaps[padlock/api.Session]", "internal/bytealg.abigen_runtime_cmpstring", "slices.overlaps[padlock/api.Lock]", "slices.overlaps[padlock/api.Memo]"], unfollowed := true, recurses := true, apart := false, narrowed := true }
def ExecRunsUptoSaid : Prop := execRunsUptoRow.holds Tryz.pinned (OpenSpec.upto execRunsSpec)

/-- 'padlocklaw18.ExecVoid', WHERE WHAT IT READS IS OF BULK AT MOST 1048576: true; the input reads as it did. -/
def execVoidUptoRow : OpenClaim := { program := "ytngleemijkaeoaagreat", sum := "224a6ffd1b82e3ec7b96f6f804a2e6152a69ff67d1c74530acf49c5b9b9dd594", func := "padlock/padlocklaw18.ExecVoid", spec := "execVoid", inPlace := ["slices.overlaps[padlock/api.Session]", "internal/bytealg.abigen_runtime_cmpstring", "slices.overlaps[padlock/api.Lock]", "slices.overlaps[padlock/api.Memo]"], unfollowed := true, recurses := true, apart := false, narrowed := true }
def ExecVoidUptoSaid : Prop := execVoidUptoRow.holds Tryz.pinned (OpenSpec.upto execVoidSpec)

/-- 'padlocklaw18.ExecParts', WHERE WHAT IT READS IS OF BULK AT MOST 1048576: true; the input reads as it did. -/
def execPartsUptoRow : OpenClaim := { program := "ytngleemijkaeoaagreat", sum := "224a6ffd1b82e3ec7b96f6f804a2e6152a69ff67d1c74530acf49c5b9b9dd594", func := "padlock/padlocklaw18.ExecParts", spec := "execParts", inPlace := ["slices.overlaps[padlock/api.Session]", "internal/bytealg.abigen_runtime_cmpstring", "slices.overlaps[padlock/api.Lock]", "slices.overlaps[padlock/api.Memo]"], unfollowed := true, recurses := true, apart := false, narrowed := true }
def ExecPartsUptoSaid : Prop := execPartsUptoRow.holds Tryz.pinned (OpenSpec.upto execPartsSpec)

/-- 'padlocklaw18.ExecRestore', WHERE WHAT IT READS IS OF BULK AT MOST 1048576: true; the input reads as it did. -/
def execRestoreUptoRow : OpenClaim := { program := "ytngleemijkaeoaagreat", sum := "224a6ffd1b82e3ec7b96f6f804a2e6152a69ff67d1c74530acf49c5b9b9dd594", func := "padlock/padlocklaw18.ExecRestore", spec := "execRestore", inPlace := ["slices.overlaps[padlock/api.Session]", "internal/bytealg.abigen_runtime_cmpstring", "slices.overlaps[padlock/api.Lock]", "slices.overlaps[padlock/api.Memo]"], unfollowed := true, recurses := true, apart := false, narrowed := true }
def ExecRestoreUptoSaid : Prop := execRestoreUptoRow.holds Tryz.pinned (OpenSpec.upto execRestoreSpec)

end Rows
end Go.Proofs.YtngleemijkaeoaaGreat
