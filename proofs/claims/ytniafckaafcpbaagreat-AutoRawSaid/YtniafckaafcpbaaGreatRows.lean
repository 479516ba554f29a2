/-
  No cell of these rows narrows 'for every input' (looked for: loops, veiled, ifaces, maps, wideKeys, modest, calm, conditions, laid).
  DERIVED. THE GIVEN ROWS OF THIS SEAT. 5 by the template 'for every input the law returns true; each argument reads behind the call as it read before'; 0 by the template 'total and deterministic' (their statements: YtniafckaafcpbaaGreatTotals.lean).
  GIVEN WITH THE SEED: the statements are not yours to turn. If you find one false, say at which input.
  Laid BY PROGRAM, IN A SANDBOX (cutbox-rows.mjs): the forced cells as the released guide's own fill.sh prints them over the translation 18a22ce87fa7bf7c… (all of the seat's roots in one cut). By AI agents, Wed Nov 11 2026. No macro, syntax, notation, axiom, sorry.
-/
import Derived.Test.YtniafckaafcpbaaGreatChecked
import GoSem.Claim
import GoSem.ClaimJoined
import GoSem.ClaimMapViews
import Derived.JoinedTies
import Derived.KernelRfl
namespace Go.Proofs.YtniafckaafcpbaaGreat
/- THE CELL 'sum', in the pinned program and in every row, IS THE sha256 OF THE DUMP (.gsa) THAT YtniafckaafcpbaaGreatProg.lean LOADS. Nothing in Lean hashes anything: it is a label: what it is worth is what the hold of that sum in a sandbox is worth. -/
noncomputable def Tryz.pinned : Pinned := { name := "ytniafckaafcpbaagreat", sum := "18a22ce87fa7bf7c56adb55afde012e97c73bb53b03788a75390e52f945bdc0a", checked := Tryz.checked }
namespace Rows
def none {H : Type} : Left H := { results := [], args := [] }

/-- 'padlocklaw10.AutoRuns': WHATEVER THE INPUT: true; the input reads as it did. -/
def autoRunsSpec : ChangeSpec := { name := "autoRuns", fn := fun _ => fun
  | [d1, d2] => { results := [.lit (.bool true)], args := [d1, d2] }
  | _ => none }
def autoRunsRow : OpenClaim := { program := "ytniafckaafcpbaagreat", sum := "18a22ce87fa7bf7c56adb55afde012e97c73bb53b03788a75390e52f945bdc0a", func := "padlock/padlocklaw10.AutoRuns", spec := "autoRuns", inPlace := ["slices.overlaps[padlock/api.Session]", "internal/bytealg.abigen_runtime_cmpstring", "slices.overlaps[padlock/api.Lock]", "slices.overlaps[padlock/api.Memo]"], unfollowed := true, recurses := true, apart := false }
def AutoRunsSaid : Prop := autoRunsRow.holds Tryz.pinned (OpenSpec.ofChange autoRunsSpec)

/-- ITS FALSE NEIGHBOUR: 'it returns false'. Refute it at one input. -/
def autoRunsWrong : ChangeSpec := { name := "autoRuns", fn := fun _ => fun
  | [d1, d2] => { results := [.lit (.bool false)], args := [d1, d2] }
  | _ => none }
def AutoRunsWrongFalsely : Prop := autoRunsRow.holds Tryz.pinned (OpenSpec.ofChange autoRunsWrong)

/-- 'padlocklaw10.AutoRaw': WHATEVER THE INPUT: true; the input reads as it did. -/
def autoRawSpec : ChangeSpec := { name := "autoRaw", fn := fun _ => fun
  | [d1, d2, d3, d4] => { results := [.lit (.bool true)], args := [d1, d2, d3, d4] }
  | _ => none }
def autoRawRow : OpenClaim := { program := "ytniafckaafcpbaagreat", sum := "18a22ce87fa7bf7c56adb55afde012e97c73bb53b03788a75390e52f945bdc0a", func := "padlock/padlocklaw10.AutoRaw", spec := "autoRaw", inPlace := ["slices.overlaps[padlock/api.Session]", "internal/bytealg.abigen_runtime_cmpstring", "slices.overlaps[padlock/api.Lock]", "slices.overlaps[padlock/api.Memo]"], unfollowed := true, recurses := true, apart := false }
def AutoRawSaid : Prop := autoRawRow.holds Tryz.pinned (OpenSpec.ofChange autoRawSpec)

/-- ITS FALSE NEIGHBOUR: 'it returns false'. Refute it at one input. -/
def autoRawWrong : ChangeSpec := { name := "autoRaw", fn := fun _ => fun
  | [d1, d2, d3, d4] => { results := [.lit (.bool false)], args := [d1, d2, d3, d4] }
  | _ => none }
def AutoRawWrongFalsely : Prop := autoRawRow.holds Tryz.pinned (OpenSpec.ofChange autoRawWrong)

/-- 'padlocklaw10.AutoTwice': WHATEVER THE INPUT: true; the input reads as it did. -/
def autoTwiceSpec : ChangeSpec := { name := "autoTwice", fn := fun _ => fun
  | [d1, d2] => { results := [.lit (.bool true)], args := [d1, d2] }
  | _ => none }
def autoTwiceRow : OpenClaim := { program := "ytniafckaafcpbaagreat", sum := "18a22ce87fa7bf7c56adb55afde012e97c73bb53b03788a75390e52f945bdc0a", func := "padlock/padlocklaw10.AutoTwice", spec := "autoTwice", inPlace := ["slices.overlaps[padlock/api.Session]", "internal/bytealg.abigen_runtime_cmpstring", "slices.overlaps[padlock/api.Lock]", "slices.overlaps[padlock/api.Memo]"], unfollowed := true, recurses := true, apart := false }
def AutoTwiceSaid : Prop := autoTwiceRow.holds Tryz.pinned (OpenSpec.ofChange autoTwiceSpec)

/-- ITS FALSE NEIGHBOUR: 'it returns false'. Refute it at one input. -/
def autoTwiceWrong : ChangeSpec := { name := "autoTwice", fn := fun _ => fun
  | [d1, d2] => { results := [.lit (.bool false)], args := [d1, d2] }
  | _ => none }
def AutoTwiceWrongFalsely : Prop := autoTwiceRow.holds Tryz.pinned (OpenSpec.ofChange autoTwiceWrong)

/-- 'padlocklaw10.AutoExpires': WHATEVER THE INPUT: true; the input reads as it did. -/
def autoExpiresSpec : ChangeSpec := { name := "autoExpires", fn := fun _ => fun
  | [d1, d2, d3, d4] => { results := [.lit (.bool true)], args := [d1, d2, d3, d4] }
  | _ => none }
def autoExpiresRow : OpenClaim := { program := "ytniafckaafcpbaagreat", sum := "18a22ce87fa7bf7c56adb55afde012e97c73bb53b03788a75390e52f945bdc0a", func := "padlock/padlocklaw10.AutoExpires", spec := "autoExpires", inPlace := ["slices.overlaps[padlock/api.Session]", "internal/bytealg.abigen_runtime_cmpstring", "slices.overlaps[padlock/api.Lock]", "slices.overlaps[padlock/api.Memo]"], unfollowed := true, recurses := true, apart := false }
def AutoExpiresSaid : Prop := autoExpiresRow.holds Tryz.pinned (OpenSpec.ofChange autoExpiresSpec)

/-- ITS FALSE NEIGHBOUR: 'it returns false'. Refute it at one input. -/
def autoExpiresWrong : ChangeSpec := { name := "autoExpires", fn := fun _ => fun
  | [d1, d2, d3, d4] => { results := [.lit (.bool false)], args := [d1, d2, d3, d4] }
  | _ => none }
def AutoExpiresWrongFalsely : Prop := autoExpiresRow.holds Tryz.pinned (OpenSpec.ofChange autoExpiresWrong)

/-- 'padlocklaw10.AutoRefuses': WHATEVER THE INPUT: true; the input reads as it did. -/
def autoRefusesSpec : ChangeSpec := { name := "autoRefuses", fn := fun _ => fun
  | [d1, d2, d3, d4] => { results := [.lit (.bool true)], args := [d1, d2, d3, d4] }
  | _ => none }
def autoRefusesRow : OpenClaim := { program := "ytniafckaafcpbaagreat", sum := "18a22ce87fa7bf7c56adb55afde012e97c73bb53b03788a75390e52f945bdc0a", func := "padlock/padlocklaw10.AutoRefuses", spec := "autoRefuses", inPlace := ["slices.overlaps[padlock/api.Session]", "internal/bytealg.abigen_runtime_cmpstring", "slices.overlaps[padlock/api.Lock]", "slices.overlaps[padlock/api.Memo]"], unfollowed := true, recurses := true, apart := false }
def AutoRefusesSaid : Prop := autoRefusesRow.holds Tryz.pinned (OpenSpec.ofChange autoRefusesSpec)

/-- ITS FALSE NEIGHBOUR: 'it returns false'. Refute it at one input. -/
def autoRefusesWrong : ChangeSpec := { name := "autoRefuses", fn := fun _ => fun
  | [d1, d2, d3, d4] => { results := [.lit (.bool false)], args := [d1, d2, d3, d4] }
  | _ => none }
def AutoRefusesWrongFalsely : Prop := autoRefusesRow.holds Tryz.pinned (OpenSpec.ofChange autoRefusesWrong)

/- THE SECOND FORM. 'bulk': how many values and letters a reading holds, each counted each time it is reached (what is shared counts as often as it is met; a slice's spare places count too). A statement '..UptoSaid' is the law's where the arguments, and the package variables that the reading takes, are together of bulk at most 1048576: NARROWER than '..Said'. Prove '..Said' where nothing that the law and all that it calls make is longer than what came in: it says more and counts as full. Else prove '..UptoSaid'. A law counts once. -/
mutual
def uptoBulk {H : Type} : DataW H → Nat
  | .lit (.string bytes) => bytes.length + 1
  | .lit _ => 1
  | .nil => 1
  | .ptr d => uptoBulk d + 1
  | .slice elems spare => uptoBulkAll elems + uptoBulkAll spare + 1
  | .agg parts => uptoBulkAll parts + 1
  | .iface _ d => uptoBulk d + 1
  | .map entries => uptoBulkEntries entries + 1
  | .held _ => 1
def uptoBulkAll {H : Type} : List (DataW H) → Nat
  | [] => 0
  | d :: r => uptoBulk d + uptoBulkAll r
def uptoBulkEntries {H : Type} : List (Lit × DataW H) → Nat
  | [] => 0
  | x :: r => uptoBulkEntry x + uptoBulkEntries r
def uptoBulkEntry {H : Type} : Lit × DataW H → Nat
  | (.string bytes, d) => bytes.length + uptoBulk d + 1
  | (_, d) => uptoBulk d + 1
 end
def uptoSmall : (H : Type) → List (DataW H) → Bool := fun _ ds => decide (uptoBulkAll ds ≤ 1048576)
def OpenSpec.upto (s : _root_.Go.ChangeSpec) : _root_.Go.OpenSpec := { _root_.Go.OpenSpec.ofChange s with cond := some uptoSmall }

/-- 'padlocklaw10.AutoRuns', WHERE WHAT IT READS IS OF BULK AT MOST 1048576: true; the input reads as it did. -/
def autoRunsUptoRow : OpenClaim := { program := "ytniafckaafcpbaagreat", sum := "18a22ce87fa7bf7c56adb55afde012e97c73bb53b03788a75390e52f945bdc0a", func := "padlock/padlocklaw10.AutoRuns", spec := "autoRuns", inPlace := ["slices.overlaps[padlock/api.Session]", "internal/bytealg.abigen_runtime_cmpstring", "slices.overlaps[padlock/api.Lock]", "slices.overlaps[padlock/api.Memo]"], unfollowed := true, recurses := true, apart := false, narrowed := true }
def AutoRunsUptoSaid : Prop := autoRunsUptoRow.holds Tryz.pinned (OpenSpec.upto autoRunsSpec)

/-- 'padlocklaw10.AutoRaw', WHERE WHAT IT READS IS OF BULK AT MOST 1048576: true; the input reads as it did. -/
def autoRawUptoRow : OpenClaim := { program := "ytniafckaafcpbaagreat", sum := "18a22ce87fa7bf7c56adb55afde012e97c73bb53b03788a75390e52f945bdc0a", func := "padlock/padlocklaw10.AutoRaw", spec := "autoRaw", inPlace := ["slices.overlaps[padlock/api.Session]", "internal/bytealg.abigen_runtime_cmpstring", "slices.overlaps[padlock/api.Lock]", "slices.overlaps[padlock/api.Memo]"], unfollowed := true, recurses := true, apart := false, narrowed := true }
def AutoRawUptoSaid : Prop := autoRawUptoRow.holds Tryz.pinned (OpenSpec.upto autoRawSpec)

/-- 'padlocklaw10.AutoTwice', WHERE WHAT IT READS IS OF BULK AT MOST 1048576: true; the input reads as it did. -/
def autoTwiceUptoRow : OpenClaim := { program := "ytniafckaafcpbaagreat", sum := "18a22ce87fa7bf7c56adb55afde012e97c73bb53b03788a75390e52f945bdc0a", func := "padlock/padlocklaw10.AutoTwice", spec := "autoTwice", inPlace := ["slices.overlaps[padlock/api.Session]", "internal/bytealg.abigen_runtime_cmpstring", "slices.overlaps[padlock/api.Lock]", "slices.overlaps[padlock/api.Memo]"], unfollowed := true, recurses := true, apart := false, narrowed := true }
def AutoTwiceUptoSaid : Prop := autoTwiceUptoRow.holds Tryz.pinned (OpenSpec.upto autoTwiceSpec)

/-- 'padlocklaw10.AutoExpires', WHERE WHAT IT READS IS OF BULK AT MOST 1048576: true; the input reads as it did. -/
def autoExpiresUptoRow : OpenClaim := { program := "ytniafckaafcpbaagreat", sum := "18a22ce87fa7bf7c56adb55afde012e97c73bb53b03788a75390e52f945bdc0a", func := "padlock/padlocklaw10.AutoExpires", spec := "autoExpires", inPlace := ["slices.overlaps[padlock/api.Session]", "internal/bytealg.abigen_runtime_cmpstring", "slices.overlaps[padlock/api.Lock]", "slices.overlaps[padlock/api.Memo]"], unfollowed := true, recurses := true, apart := false, narrowed := true }
def AutoExpiresUptoSaid : Prop := autoExpiresUptoRow.holds Tryz.pinned (OpenSpec.upto autoExpiresSpec)

/-- 'padlocklaw10.AutoRefuses', WHERE WHAT IT READS IS OF BULK AT MOST 1048576: true; the input reads as it did. -/
def autoRefusesUptoRow : OpenClaim := { program := "ytniafckaafcpbaagreat", sum := "18a22ce87fa7bf7c56adb55afde012e97c73bb53b03788a75390e52f945bdc0a", func := "padlock/padlocklaw10.AutoRefuses", spec := "autoRefuses", inPlace := ["slices.overlaps[padlock/api.Session]", "internal/bytealg.abigen_runtime_cmpstring", "slices.overlaps[padlock/api.Lock]", "slices.overlaps[padlock/api.Memo]"], unfollowed := true, recurses := true, apart := false, narrowed := true }
def AutoRefusesUptoSaid : Prop := autoRefusesUptoRow.holds Tryz.pinned (OpenSpec.upto autoRefusesSpec)

end Rows
end Go.Proofs.YtniafckaafcpbaaGreat
