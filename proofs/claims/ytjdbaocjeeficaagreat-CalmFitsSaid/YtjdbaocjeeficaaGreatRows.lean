/-
  No cell of these rows narrows 'for every input' (looked for: loops, veiled, ifaces, maps, wideKeys, modest, calm, conditions, laid).
  DERIVED. THE GIVEN ROWS OF THIS SEAT. 5 by the template 'for every input the law returns true; each argument reads behind the call as it read before'; 0 by the template 'total and deterministic' (their statements: YtjdbaocjeeficaaGreatTotals.lean).
  GIVEN WITH THE SEED: the statements are not yours to turn. If you find one false, say at which input.
  Laid BY PROGRAM, IN A SANDBOX (cutbox-rows.mjs): the forced cells as the released guide's own fill.sh prints them over the translation 391e5dd12238f7c9… (all of the seat's roots in one cut). By AI agents, Wed Nov 11 2026. No macro, syntax, notation, axiom, sorry.
-/
import Derived.Test.YtjdbaocjeeficaaGreatChecked
import GoSem.Claim
import GoSem.ClaimJoined
import GoSem.ClaimMapViews
import Derived.JoinedTies
import Derived.KernelRfl
namespace Go.Proofs.YtjdbaocjeeficaaGreat
/- THE CELL 'sum', in the pinned program and in every row, IS THE sha256 OF THE DUMP (.gsa) THAT YtjdbaocjeeficaaGreatProg.lean LOADS. Nothing in Lean hashes anything: it is a label: what it is worth is what the hold of that sum in a sandbox is worth. -/
noncomputable def Tryz.pinned : Pinned := { name := "ytjdbaocjeeficaagreat", sum := "391e5dd12238f7c910d1a19b107c1389778bc756417fe26a967006171dc83e07", checked := Tryz.checked }
namespace Rows
def none {H : Type} : Left H := { results := [], args := [] }

/-- 'padlocklaw28.CalmRaw': WHATEVER THE INPUT: true; the input reads as it did. -/
def calmRawSpec : ChangeSpec := { name := "calmRaw", fn := fun _ => fun
  | [d1, d2, d3, d4, d5] => { results := [.lit (.bool true)], args := [d1, d2, d3, d4, d5] }
  | _ => none }
def calmRawRow : OpenClaim := { program := "ytjdbaocjeeficaagreat", sum := "391e5dd12238f7c910d1a19b107c1389778bc756417fe26a967006171dc83e07", func := "padlock/padlocklaw28.CalmRaw", spec := "calmRaw", inPlace := ["slices.overlaps[padlock/api.Promise]", "slices.overlaps[padlock/api.Vote]", "slices.overlaps[int]", "slices.overlaps[padlock/api.Session]", "internal/bytealg.abigen_runtime_cmpstring", "slices.overlaps[padlock/api.Lock]", "slices.overlaps[padlock/api.Memo]", "math.archFloor", "math.Float64bits", "math.Float64frombits", "math.archTrunc"], unfollowed := true, recurses := true, apart := false }
def CalmRawSaid : Prop := calmRawRow.holds Tryz.pinned (OpenSpec.ofChange calmRawSpec)

/-- ITS FALSE NEIGHBOUR: 'it returns false'. Refute it at one input. -/
def calmRawWrong : ChangeSpec := { name := "calmRaw", fn := fun _ => fun
  | [d1, d2, d3, d4, d5] => { results := [.lit (.bool false)], args := [d1, d2, d3, d4, d5] }
  | _ => none }
def CalmRawWrongFalsely : Prop := calmRawRow.holds Tryz.pinned (OpenSpec.ofChange calmRawWrong)

/-- 'padlocklaw28.CalmMade': WHATEVER THE INPUT: true; the input reads as it did. -/
def calmMadeSpec : ChangeSpec := { name := "calmMade", fn := fun _ => fun
  | [d1, d2, d3, d4, d5, d6, d7, d8] => { results := [.lit (.bool true)], args := [d1, d2, d3, d4, d5, d6, d7, d8] }
  | _ => none }
def calmMadeRow : OpenClaim := { program := "ytjdbaocjeeficaagreat", sum := "391e5dd12238f7c910d1a19b107c1389778bc756417fe26a967006171dc83e07", func := "padlock/padlocklaw28.CalmMade", spec := "calmMade", inPlace := ["slices.overlaps[padlock/api.Promise]", "slices.overlaps[padlock/api.Vote]", "slices.overlaps[int]", "slices.overlaps[padlock/api.Session]", "internal/bytealg.abigen_runtime_cmpstring", "slices.overlaps[padlock/api.Lock]", "slices.overlaps[padlock/api.Memo]", "math.archFloor", "math.Float64bits", "math.Float64frombits", "math.archTrunc"], unfollowed := true, recurses := true, apart := false }
def CalmMadeSaid : Prop := calmMadeRow.holds Tryz.pinned (OpenSpec.ofChange calmMadeSpec)

/-- ITS FALSE NEIGHBOUR: 'it returns false'. Refute it at one input. -/
def calmMadeWrong : ChangeSpec := { name := "calmMade", fn := fun _ => fun
  | [d1, d2, d3, d4, d5, d6, d7, d8] => { results := [.lit (.bool false)], args := [d1, d2, d3, d4, d5, d6, d7, d8] }
  | _ => none }
def CalmMadeWrongFalsely : Prop := calmMadeRow.holds Tryz.pinned (OpenSpec.ofChange calmMadeWrong)

/-- 'padlocklaw28.CalmLater': WHATEVER THE INPUT: true; the input reads as it did. -/
def calmLaterSpec : ChangeSpec := { name := "calmLater", fn := fun _ => fun
  | [d1, d2, d3, d4, d5, d6, d7] => { results := [.lit (.bool true)], args := [d1, d2, d3, d4, d5, d6, d7] }
  | _ => none }
def calmLaterRow : OpenClaim := { program := "ytjdbaocjeeficaagreat", sum := "391e5dd12238f7c910d1a19b107c1389778bc756417fe26a967006171dc83e07", func := "padlock/padlocklaw28.CalmLater", spec := "calmLater", inPlace := ["slices.overlaps[padlock/api.Promise]", "slices.overlaps[padlock/api.Vote]", "slices.overlaps[int]", "slices.overlaps[padlock/api.Session]", "internal/bytealg.abigen_runtime_cmpstring", "slices.overlaps[padlock/api.Lock]", "slices.overlaps[padlock/api.Memo]", "math.archFloor", "math.Float64bits", "math.Float64frombits", "math.archTrunc"], unfollowed := true, recurses := true, apart := false }
def CalmLaterSaid : Prop := calmLaterRow.holds Tryz.pinned (OpenSpec.ofChange calmLaterSpec)

/-- ITS FALSE NEIGHBOUR: 'it returns false'. Refute it at one input. -/
def calmLaterWrong : ChangeSpec := { name := "calmLater", fn := fun _ => fun
  | [d1, d2, d3, d4, d5, d6, d7] => { results := [.lit (.bool false)], args := [d1, d2, d3, d4, d5, d6, d7] }
  | _ => none }
def CalmLaterWrongFalsely : Prop := calmLaterRow.holds Tryz.pinned (OpenSpec.ofChange calmLaterWrong)

/-- 'padlocklaw28.CalmNumbers': WHATEVER THE INPUT: true; the input reads as it did. -/
def calmNumbersSpec : ChangeSpec := { name := "calmNumbers", fn := fun _ => fun
  | [d1, d2, d3, d4, d5] => { results := [.lit (.bool true)], args := [d1, d2, d3, d4, d5] }
  | _ => none }
def calmNumbersRow : OpenClaim := { program := "ytjdbaocjeeficaagreat", sum := "391e5dd12238f7c910d1a19b107c1389778bc756417fe26a967006171dc83e07", func := "padlock/padlocklaw28.CalmNumbers", spec := "calmNumbers", inPlace := ["slices.overlaps[padlock/api.Promise]", "slices.overlaps[padlock/api.Vote]", "slices.overlaps[int]", "slices.overlaps[padlock/api.Session]", "internal/bytealg.abigen_runtime_cmpstring", "slices.overlaps[padlock/api.Lock]", "slices.overlaps[padlock/api.Memo]", "math.archFloor", "math.Float64bits", "math.Float64frombits", "math.archTrunc"], unfollowed := true, recurses := true, apart := false }
def CalmNumbersSaid : Prop := calmNumbersRow.holds Tryz.pinned (OpenSpec.ofChange calmNumbersSpec)

/-- ITS FALSE NEIGHBOUR: 'it returns false'. Refute it at one input. -/
def calmNumbersWrong : ChangeSpec := { name := "calmNumbers", fn := fun _ => fun
  | [d1, d2, d3, d4, d5] => { results := [.lit (.bool false)], args := [d1, d2, d3, d4, d5] }
  | _ => none }
def CalmNumbersWrongFalsely : Prop := calmNumbersRow.holds Tryz.pinned (OpenSpec.ofChange calmNumbersWrong)

/-- 'padlocklaw28.CalmFits': WHATEVER THE INPUT: true; the input reads as it did. -/
def calmFitsSpec : ChangeSpec := { name := "calmFits", fn := fun _ => fun
  | [d1, d2, d3] => { results := [.lit (.bool true)], args := [d1, d2, d3] }
  | _ => none }
def calmFitsRow : OpenClaim := { program := "ytjdbaocjeeficaagreat", sum := "391e5dd12238f7c910d1a19b107c1389778bc756417fe26a967006171dc83e07", func := "padlock/padlocklaw28.CalmFits", spec := "calmFits", inPlace := ["slices.overlaps[padlock/api.Promise]", "slices.overlaps[padlock/api.Vote]", "slices.overlaps[int]", "slices.overlaps[padlock/api.Session]", "internal/bytealg.abigen_runtime_cmpstring", "slices.overlaps[padlock/api.Lock]", "slices.overlaps[padlock/api.Memo]", "math.archFloor", "math.Float64bits", "math.Float64frombits", "math.archTrunc"], unfollowed := true, recurses := true, apart := false }
def CalmFitsSaid : Prop := calmFitsRow.holds Tryz.pinned (OpenSpec.ofChange calmFitsSpec)

/-- ITS FALSE NEIGHBOUR: 'it returns false'. Refute it at one input. -/
def calmFitsWrong : ChangeSpec := { name := "calmFits", fn := fun _ => fun
  | [d1, d2, d3] => { results := [.lit (.bool false)], args := [d1, d2, d3] }
  | _ => none }
def CalmFitsWrongFalsely : Prop := calmFitsRow.holds Tryz.pinned (OpenSpec.ofChange calmFitsWrong)

/- THE SECOND FORM. 'bulk': how many values and letters a reading holds, each counted each time it is reached (what is shared counts as often as it is met; a slice's spare places count too). A statement '..UptoSaid' is the law's where the arguments, and the package variables that the reading takes, are together of bulk at most 1048576: NARROWER than '..Said'. Prove '..Said' where nothing that the law and all that it calls make is longer than what came in: it says more and counts as full. Else prove '..UptoSaid'. A law counts once. -/
mutual
def uptoBulk {H : Type} : DataW H → Nat
  | .lit (.string bytes) => bytes.length + 1
  | .lit _ => 1
  | .nil => 1
  | .ptr d => uptoBulk d + 1
  | .slice elems spare => uptoBulkAll elems + uptoBulkAll spare + 1
  | .agg parts => uptoBulkAll parts + 1
  | .iface _ d => uptoBulk d + 1
  | .map entries => uptoBulkEntries entries + 1
  | .held _ => 1
def uptoBulkAll {H : Type} : List (DataW H) → Nat
  | [] => 0
  | d :: r => uptoBulk d + uptoBulkAll r
def uptoBulkEntries {H : Type} : List (Lit × DataW H) → Nat
  | [] => 0
  | x :: r => uptoBulkEntry x + uptoBulkEntries r
def uptoBulkEntry {H : Type} : Lit × DataW H → Nat
  | (.string bytes, d) => bytes.length + uptoBulk d + 1
  | (_, d) => uptoBulk d + 1
 end
def uptoSmall : (H : Type) → List (DataW H) → Bool := fun _ ds => decide (uptoBulkAll ds ≤ 1048576)
def OpenSpec.upto (s : _root_.Go.ChangeSpec) : _root_.Go.OpenSpec := { _root_.Go.OpenSpec.ofChange s with cond := some uptoSmall }

/-- 'padlocklaw28.CalmRaw', WHERE WHAT IT READS IS OF BULK AT MOST 1048576: true; the input reads as it did. -/
def calmRawUptoRow : OpenClaim := { program := "ytjdbaocjeeficaagreat", sum := "391e5dd12238f7c910d1a19b107c1389778bc756417fe26a967006171dc83e07", func := "padlock/padlocklaw28.CalmRaw", spec := "calmRaw", inPlace := ["slices.overlaps[padlock/api.Promise]", "slices.overlaps[padlock/api.Vote]", "slices.overlaps[int]", "slices.overlaps[padlock/api.Session]", "internal/bytealg.abigen_runtime_cmpstring", "slices.overlaps[padlock/api.Lock]", "slices.overlaps[padlock/api.Memo]", "math.archFloor", "math.Float64bits", "math.Float64frombits", "math.archTrunc"], unfollowed := true, recurses := true, apart := false, narrowed := true }
def CalmRawUptoSaid : Prop := calmRawUptoRow.holds Tryz.pinned (OpenSpec.upto calmRawSpec)

/-- 'padlocklaw28.CalmMade', WHERE WHAT IT READS IS OF BULK AT MOST 1048576: true; the input reads as it did. -/
def calmMadeUptoRow : OpenClaim := { program := "ytjdbaocjeeficaagreat", sum := "391e5dd12238f7c910d1a19b107c1389778bc756417fe26a967006171dc83e07", func := "padlock/padlocklaw28.CalmMade", spec := "calmMade", inPlace := ["slices.overlaps[padlock/api.Promise]", "slices.overlaps[padlock/api.Vote]", "slices.overlaps[int]", "slices.overlaps[padlock/api.Session]", "internal/bytealg.abigen_runtime_cmpstring", "slices.overlaps[padlock/api.Lock]", "slices.overlaps[padlock/api.Memo]", "math.archFloor", "math.Float64bits", "math.Float64frombits", "math.archTrunc"], unfollowed := true, recurses := true, apart := false, narrowed := true }
def CalmMadeUptoSaid : Prop := calmMadeUptoRow.holds Tryz.pinned (OpenSpec.upto calmMadeSpec)

/-- 'padlocklaw28.CalmLater', WHERE WHAT IT READS IS OF BULK AT MOST 1048576: true; the input reads as it did. -/
def calmLaterUptoRow : OpenClaim := { program := "ytjdbaocjeeficaagreat", sum := "391e5dd12238f7c910d1a19b107c1389778bc756417fe26a967006171dc83e07", func := "padlock/padlocklaw28.CalmLater", spec := "calmLater", inPlace := ["slices.overlaps[padlock/api.Promise]", "slices.overlaps[padlock/api.Vote]", "slices.overlaps[int]", "slices.overlaps[padlock/api.Session]", "internal/bytealg.abigen_runtime_cmpstring", "slices.overlaps[padlock/api.Lock]", "slices.overlaps[padlock/api.Memo]", "math.archFloor", "math.Float64bits", "math.Float64frombits", "math.archTrunc"], unfollowed := true, recurses := true, apart := false, narrowed := true }
def CalmLaterUptoSaid : Prop := calmLaterUptoRow.holds Tryz.pinned (OpenSpec.upto calmLaterSpec)

/-- 'padlocklaw28.CalmNumbers', WHERE WHAT IT READS IS OF BULK AT MOST 1048576: true; the input reads as it did. -/
def calmNumbersUptoRow : OpenClaim := { program := "ytjdbaocjeeficaagreat", sum := "391e5dd12238f7c910d1a19b107c1389778bc756417fe26a967006171dc83e07", func := "padlock/padlocklaw28.CalmNumbers", spec := "calmNumbers", inPlace := ["slices.overlaps[padlock/api.Promise]", "slices.overlaps[padlock/api.Vote]", "slices.overlaps[int]", "slices.overlaps[padlock/api.Session]", "internal/bytealg.abigen_runtime_cmpstring", "slices.overlaps[padlock/api.Lock]", "slices.overlaps[padlock/api.Memo]", "math.archFloor", "math.Float64bits", "math.Float64frombits", "math.archTrunc"], unfollowed := true, recurses := true, apart := false, narrowed := true }
def CalmNumbersUptoSaid : Prop := calmNumbersUptoRow.holds Tryz.pinned (OpenSpec.upto calmNumbersSpec)

/-- 'padlocklaw28.CalmFits', WHERE WHAT IT READS IS OF BULK AT MOST 1048576: true; the input reads as it did. -/
def calmFitsUptoRow : OpenClaim := { program := "ytjdbaocjeeficaagreat", sum := "391e5dd12238f7c910d1a19b107c1389778bc756417fe26a967006171dc83e07", func := "padlock/padlocklaw28.CalmFits", spec := "calmFits", inPlace := ["slices.overlaps[padlock/api.Promise]", "slices.overlaps[padlock/api.Vote]", "slices.overlaps[int]", "slices.overlaps[padlock/api.Session]", "internal/bytealg.abigen_runtime_cmpstring", "slices.overlaps[padlock/api.Lock]", "slices.overlaps[padlock/api.Memo]", "math.archFloor", "math.Float64bits", "math.Float64frombits", "math.archTrunc"], unfollowed := true, recurses := true, apart := false, narrowed := true }
def CalmFitsUptoSaid : Prop := calmFitsUptoRow.holds Tryz.pinned (OpenSpec.upto calmFitsSpec)

end Rows
end Go.Proofs.YtjdbaocjeeficaaGreat
