/-
  No cell of these rows narrows 'for every input' (looked for: loops, veiled, ifaces, maps, wideKeys, modest, calm, conditions, laid).
  DERIVED. THE GIVEN ROWS OF THIS SEAT. 2 by the template 'for every input the law returns true; each argument reads behind the call as it read before'; 0 by the template 'total and deterministic' (their statements: YtniafckaafcpbaaTotals.lean).
  GIVEN WITH THE SEED: the statements are not yours to turn. If you find one false, say at which input.
  Laid BY PROGRAM, IN A SANDBOX (cutbox-rows.mjs): the forced cells as the released guide's own fill.sh prints them over the translation 9a42a76cd33851f4… (all of the seat's roots in one cut). By AI agents, Wed Nov 11 2026. No macro, syntax, notation, axiom, sorry.
-/
import Derived.Test.YtniafckaafcpbaaChecked
import GoSem.Claim
import GoSem.ClaimJoined
import GoSem.ClaimMapViews
import Derived.JoinedTies
import Derived.KernelRfl
namespace Go.Proofs.Ytniafckaafcpbaa
/- THE CELL 'sum', in the pinned program and in every row, IS THE sha256 OF THE DUMP (.gsa) THAT YtniafckaafcpbaaProg.lean LOADS. Nothing in Lean hashes anything: it is a label: what it is worth is what the hold of that sum in a sandbox is worth. -/
noncomputable def Try.pinned : Pinned := { name := "ytniafckaafcpbaa", sum := "9a42a76cd33851f4c8069d0d72dfeed074618051afd586d7c856b5e9ceb75395", checked := Try.checked }
namespace Rows
def none {H : Type} : Left H := { results := [], args := [] }

/-- 'padlocklaw10.AutoRights': WHATEVER THE INPUT: true; the input reads as it did. -/
def autoRightsSpec : ChangeSpec := { name := "autoRights", fn := fun _ => fun
  | [d1, d2] => { results := [.lit (.bool true)], args := [d1, d2] }
  | _ => none }
def autoRightsRow : OpenClaim := { program := "ytniafckaafcpbaa", sum := "9a42a76cd33851f4c8069d0d72dfeed074618051afd586d7c856b5e9ceb75395", func := "padlock/padlocklaw10.AutoRights", spec := "autoRights", inPlace := ["slices.overlaps[padlock/api.Session]", "internal/bytealg.abigen_runtime_cmpstring", "slices.overlaps[padlock/api.Lock]", "slices.overlaps[padlock/api.Memo]"], unfollowed := true, recurses := true, apart := false }
def AutoRightsSaid : Prop := autoRightsRow.holds Try.pinned (OpenSpec.ofChange autoRightsSpec)

/-- ITS FALSE NEIGHBOUR: 'it returns false'. Refute it at one input. -/
def autoRightsWrong : ChangeSpec := { name := "autoRights", fn := fun _ => fun
  | [d1, d2] => { results := [.lit (.bool false)], args := [d1, d2] }
  | _ => none }
def AutoRightsWrongFalsely : Prop := autoRightsRow.holds Try.pinned (OpenSpec.ofChange autoRightsWrong)

/-- 'padlocklaw10.AutoFair': WHATEVER THE INPUT: true; the input reads as it did. -/
def autoFairSpec : ChangeSpec := { name := "autoFair", fn := fun _ => fun
  | [d1, d2, d3] => { results := [.lit (.bool true)], args := [d1, d2, d3] }
  | _ => none }
def autoFairRow : OpenClaim := { program := "ytniafckaafcpbaa", sum := "9a42a76cd33851f4c8069d0d72dfeed074618051afd586d7c856b5e9ceb75395", func := "padlock/padlocklaw10.AutoFair", spec := "autoFair", inPlace := ["slices.overlaps[padlock/api.Session]", "internal/bytealg.abigen_runtime_cmpstring", "slices.overlaps[padlock/api.Lock]", "slices.overlaps[padlock/api.Memo]"], unfollowed := true, recurses := true, apart := false }
def AutoFairSaid : Prop := autoFairRow.holds Try.pinned (OpenSpec.ofChange autoFairSpec)

/-- ITS FALSE NEIGHBOUR: 'it returns false'. Refute it at one input. -/
def autoFairWrong : ChangeSpec := { name := "autoFair", fn := fun _ => fun
  | [d1, d2, d3] => { results := [.lit (.bool false)], args := [d1, d2, d3] }
  | _ => none }
def AutoFairWrongFalsely : Prop := autoFairRow.holds Try.pinned (OpenSpec.ofChange autoFairWrong)

/- THE SECOND FORM. 'bulk': how many values and letters a reading holds, each counted each time it is reached (what is shared counts as often as it is met; a slice's spare places count too). A statement '..UptoSaid' is the law's where the arguments, and the package variables that the reading takes, are together of bulk at most 1048576: NARROWER than '..Said'. Prove '..Said' where nothing that the law and all that it calls make is longer than what came in: it says more and counts as full. Else prove '..UptoSaid'. A law counts once. -/
mutual
def uptoBulk {H : Type} : DataW H → Nat
  | .lit (.string bytes) => bytes.length + 1
  | .lit _ => 1
  | .nil => 1
  | .ptr d => uptoBulk d + 1
  | .slice elems spare => uptoBulkAll elems + uptoBulkAll spare + 1
  | .agg parts => uptoBulkAll parts + 1
  | .iface _ d => uptoBulk d + 1
  | .map entries => uptoBulkEntries entries + 1
  | .held _ => 1
def uptoBulkAll {H : Type} : List (DataW H) → Nat
  | [] => 0
  | d :: r => uptoBulk d + uptoBulkAll r
def uptoBulkEntries {H : Type} : List (Lit × DataW H) → Nat
  | [] => 0
  | x :: r => uptoBulkEntry x + uptoBulkEntries r
def uptoBulkEntry {H : Type} : Lit × DataW H → Nat
  | (.string bytes, d) => bytes.length + uptoBulk d + 1
  | (_, d) => uptoBulk d + 1
 end
def uptoSmall : (H : Type) → List (DataW H) → Bool := fun _ ds => decide (uptoBulkAll ds ≤ 1048576)
def OpenSpec.upto (s : _root_.Go.ChangeSpec) : _root_.Go.OpenSpec := { _root_.Go.OpenSpec.ofChange s with cond := some uptoSmall }

/-- 'padlocklaw10.AutoRights', WHERE WHAT IT READS IS OF BULK AT MOST 1048576: true; the input reads as it did. -/
def autoRightsUptoRow : OpenClaim := { program := "ytniafckaafcpbaa", sum := "9a42a76cd33851f4c8069d0d72dfeed074618051afd586d7c856b5e9ceb75395", func := "padlock/padlocklaw10.AutoRights", spec := "autoRights", inPlace := ["slices.overlaps[padlock/api.Session]", "internal/bytealg.abigen_runtime_cmpstring", "slices.overlaps[padlock/api.Lock]", "slices.overlaps[padlock/api.Memo]"], unfollowed := true, recurses := true, apart := false, narrowed := true }
def AutoRightsUptoSaid : Prop := autoRightsUptoRow.holds Try.pinned (OpenSpec.upto autoRightsSpec)

/-- 'padlocklaw10.AutoFair', WHERE WHAT IT READS IS OF BULK AT MOST 1048576: true; the input reads as it did. -/
def autoFairUptoRow : OpenClaim := { program := "ytniafckaafcpbaa", sum := "9a42a76cd33851f4c8069d0d72dfeed074618051afd586d7c856b5e9ceb75395", func := "padlock/padlocklaw10.AutoFair", spec := "autoFair", inPlace := ["slices.overlaps[padlock/api.Session]", "internal/bytealg.abigen_runtime_cmpstring", "slices.overlaps[padlock/api.Lock]", "slices.overlaps[padlock/api.Memo]"], unfollowed := true, recurses := true, apart := false, narrowed := true }
def AutoFairUptoSaid : Prop := autoFairUptoRow.holds Try.pinned (OpenSpec.upto autoFairSpec)

end Rows
end Go.Proofs.Ytniafckaafcpbaa
