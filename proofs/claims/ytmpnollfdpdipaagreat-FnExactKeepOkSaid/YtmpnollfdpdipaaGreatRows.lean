/-
  No cell of these rows narrows 'for every input' (looked for: loops, veiled, ifaces, maps, wideKeys, modest, calm, conditions, laid).
  DERIVED. THE GIVEN ROWS OF THIS SEAT. 6 by the template 'for every input the law returns true; each argument reads behind the call as it read before'; 0 by the template 'total and deterministic' (their statements: YtmpnollfdpdipaaGreatTotals.lean).
  GIVEN WITH THE SEED: the statements are not yours to turn. If you find one false, say at which input.
  Laid BY PROGRAM, IN A SANDBOX (cutbox-rows.mjs): the forced cells as the released guide's own fill.sh prints them over the translation ab851d8e38744db3… (all of the seat's roots in one cut). By AI agents, Wed Nov 11 2026. No macro, syntax, notation, axiom, sorry.
-/
import Derived.Test.YtmpnollfdpdipaaGreatChecked
import GoSem.Claim
import GoSem.ClaimJoined
import GoSem.ClaimMapViews
import Derived.JoinedTies
import Derived.KernelRfl
namespace Go.Proofs.YtmpnollfdpdipaaGreat
/- THE CELL 'sum', in the pinned program and in every row, IS THE sha256 OF THE DUMP (.gsa) THAT YtmpnollfdpdipaaGreatProg.lean LOADS. Nothing in Lean hashes anything: it is a label: what it is worth is what the hold of that sum in a sandbox is worth. -/
noncomputable def Tryz.pinned : Pinned := { name := "ytmpnollfdpdipaagreat", sum := "ab851d8e38744db3a40aea8d9c493dd73103ee520ad6d11abe20b6545f07e905", checked := Tryz.checked }
namespace Rows
def none {H : Type} : Left H := { results := [], args := [] }

/-- 'laws.FnExactGraphOk': WHATEVER THE INPUT: true; the input reads as it did. -/
def fnExactGraphOkSpec : ChangeSpec := { name := "fnExactGraphOk", fn := fun _ => fun
  | [d] => { results := [.lit (.bool true)], args := [d] }
  | _ => none }
def fnExactGraphOkRow : OpenClaim := { program := "ytmpnollfdpdipaagreat", sum := "ab851d8e38744db3a40aea8d9c493dd73103ee520ad6d11abe20b6545f07e905", func := "loop.example/g00033/laws.FnExactGraphOk", spec := "fnExactGraphOk", inPlace := ["internal/bytealg.IndexByteString", "internal/bytealg.IndexString"], unfollowed := true, recurses := true, named := ["internal/bytealg.MaxLen"], apart := false }
def FnExactGraphOkSaid : Prop := fnExactGraphOkRow.holds Tryz.pinned (OpenSpec.ofChange fnExactGraphOkSpec)

/-- ITS FALSE NEIGHBOUR: 'it returns false'. Refute it at one input. -/
def fnExactGraphOkWrong : ChangeSpec := { name := "fnExactGraphOk", fn := fun _ => fun
  | [d] => { results := [.lit (.bool false)], args := [d] }
  | _ => none }
def FnExactGraphOkWrongFalsely : Prop := fnExactGraphOkRow.holds Tryz.pinned (OpenSpec.ofChange fnExactGraphOkWrong)

/-- 'laws.FnExactInputs': WHATEVER THE INPUT: true; the input reads as it did. -/
def fnExactInputsSpec : ChangeSpec := { name := "fnExactInputs", fn := fun _ => fun
  | [d] => { results := [.lit (.bool true)], args := [d] }
  | _ => none }
def fnExactInputsRow : OpenClaim := { program := "ytmpnollfdpdipaagreat", sum := "ab851d8e38744db3a40aea8d9c493dd73103ee520ad6d11abe20b6545f07e905", func := "loop.example/g00033/laws.FnExactInputs", spec := "fnExactInputs", inPlace := ["internal/bytealg.IndexByteString", "internal/bytealg.IndexString"], unfollowed := true, recurses := true, named := ["internal/bytealg.MaxLen"], apart := false }
def FnExactInputsSaid : Prop := fnExactInputsRow.holds Tryz.pinned (OpenSpec.ofChange fnExactInputsSpec)

/-- ITS FALSE NEIGHBOUR: 'it returns false'. Refute it at one input. -/
def fnExactInputsWrong : ChangeSpec := { name := "fnExactInputs", fn := fun _ => fun
  | [d] => { results := [.lit (.bool false)], args := [d] }
  | _ => none }
def FnExactInputsWrongFalsely : Prop := fnExactInputsRow.holds Tryz.pinned (OpenSpec.ofChange fnExactInputsWrong)

/-- 'laws.FnExactShapes': WHATEVER THE INPUT: true; the input reads as it did. -/
def fnExactShapesSpec : ChangeSpec := { name := "fnExactShapes", fn := fun _ => fun
  | [d] => { results := [.lit (.bool true)], args := [d] }
  | _ => none }
def fnExactShapesRow : OpenClaim := { program := "ytmpnollfdpdipaagreat", sum := "ab851d8e38744db3a40aea8d9c493dd73103ee520ad6d11abe20b6545f07e905", func := "loop.example/g00033/laws.FnExactShapes", spec := "fnExactShapes", inPlace := ["internal/bytealg.IndexByteString", "internal/bytealg.IndexString"], unfollowed := true, recurses := true, named := ["internal/bytealg.MaxLen"], apart := false }
def FnExactShapesSaid : Prop := fnExactShapesRow.holds Tryz.pinned (OpenSpec.ofChange fnExactShapesSpec)

/-- ITS FALSE NEIGHBOUR: 'it returns false'. Refute it at one input. -/
def fnExactShapesWrong : ChangeSpec := { name := "fnExactShapes", fn := fun _ => fun
  | [d] => { results := [.lit (.bool false)], args := [d] }
  | _ => none }
def FnExactShapesWrongFalsely : Prop := fnExactShapesRow.holds Tryz.pinned (OpenSpec.ofChange fnExactShapesWrong)

/-- 'laws.FnExactUsed': WHATEVER THE INPUT: true; the input reads as it did. -/
def fnExactUsedSpec : ChangeSpec := { name := "fnExactUsed", fn := fun _ => fun
  | [d] => { results := [.lit (.bool true)], args := [d] }
  | _ => none }
def fnExactUsedRow : OpenClaim := { program := "ytmpnollfdpdipaagreat", sum := "ab851d8e38744db3a40aea8d9c493dd73103ee520ad6d11abe20b6545f07e905", func := "loop.example/g00033/laws.FnExactUsed", spec := "fnExactUsed", inPlace := ["internal/bytealg.IndexByteString", "internal/bytealg.IndexString"], unfollowed := true, recurses := true, named := ["internal/bytealg.MaxLen"], apart := false }
def FnExactUsedSaid : Prop := fnExactUsedRow.holds Tryz.pinned (OpenSpec.ofChange fnExactUsedSpec)

/-- ITS FALSE NEIGHBOUR: 'it returns false'. Refute it at one input. -/
def fnExactUsedWrong : ChangeSpec := { name := "fnExactUsed", fn := fun _ => fun
  | [d] => { results := [.lit (.bool false)], args := [d] }
  | _ => none }
def FnExactUsedWrongFalsely : Prop := fnExactUsedRow.holds Tryz.pinned (OpenSpec.ofChange fnExactUsedWrong)

/-- 'laws.FnExactKeepOk': WHATEVER THE INPUT: true; the input reads as it did. -/
def fnExactKeepOkSpec : ChangeSpec := { name := "fnExactKeepOk", fn := fun _ => fun
  | [d1, d2] => { results := [.lit (.bool true)], args := [d1, d2] }
  | _ => none }
def fnExactKeepOkRow : OpenClaim := { program := "ytmpnollfdpdipaagreat", sum := "ab851d8e38744db3a40aea8d9c493dd73103ee520ad6d11abe20b6545f07e905", func := "loop.example/g00033/laws.FnExactKeepOk", spec := "fnExactKeepOk", inPlace := ["internal/bytealg.IndexByteString", "internal/bytealg.IndexString"], unfollowed := true, recurses := true, named := ["internal/bytealg.MaxLen"], apart := false }
def FnExactKeepOkSaid : Prop := fnExactKeepOkRow.holds Tryz.pinned (OpenSpec.ofChange fnExactKeepOkSpec)

/-- ITS FALSE NEIGHBOUR: 'it returns false'. Refute it at one input. -/
def fnExactKeepOkWrong : ChangeSpec := { name := "fnExactKeepOk", fn := fun _ => fun
  | [d1, d2] => { results := [.lit (.bool false)], args := [d1, d2] }
  | _ => none }
def FnExactKeepOkWrongFalsely : Prop := fnExactKeepOkRow.holds Tryz.pinned (OpenSpec.ofChange fnExactKeepOkWrong)

/-- 'laws.FnExactDegrees': WHATEVER THE INPUT: true; the input reads as it did. -/
def fnExactDegreesSpec : ChangeSpec := { name := "fnExactDegrees", fn := fun _ => fun
  | [d] => { results := [.lit (.bool true)], args := [d] }
  | _ => none }
def fnExactDegreesRow : OpenClaim := { program := "ytmpnollfdpdipaagreat", sum := "ab851d8e38744db3a40aea8d9c493dd73103ee520ad6d11abe20b6545f07e905", func := "loop.example/g00033/laws.FnExactDegrees", spec := "fnExactDegrees", inPlace := ["internal/bytealg.IndexByteString", "internal/bytealg.IndexString"], unfollowed := true, recurses := true, named := ["internal/bytealg.MaxLen"], apart := false }
def FnExactDegreesSaid : Prop := fnExactDegreesRow.holds Tryz.pinned (OpenSpec.ofChange fnExactDegreesSpec)

/-- ITS FALSE NEIGHBOUR: 'it returns false'. Refute it at one input. -/
def fnExactDegreesWrong : ChangeSpec := { name := "fnExactDegrees", fn := fun _ => fun
  | [d] => { results := [.lit (.bool false)], args := [d] }
  | _ => none }
def FnExactDegreesWrongFalsely : Prop := fnExactDegreesRow.holds Tryz.pinned (OpenSpec.ofChange fnExactDegreesWrong)

/- THE SECOND FORM. 'bulk': how many values and letters a reading holds, each counted each time it is reached (what is shared counts as often as it is met; a slice's spare places count too). A statement '..UptoSaid' is the law's where the arguments, and the package variables that the reading takes, are together of bulk at most 1048576: NARROWER than '..Said'. Prove '..Said' where nothing that the law and all that it calls make is longer than what came in: it says more and counts as full. Else prove '..UptoSaid'. A law counts once. -/
mutual
def uptoBulk {H : Type} : DataW H → Nat
  | .lit (.string bytes) => bytes.length + 1
  | .lit _ => 1
  | .nil => 1
  | .ptr d => uptoBulk d + 1
  | .slice elems spare => uptoBulkAll elems + uptoBulkAll spare + 1
  | .agg parts => uptoBulkAll parts + 1
  | .iface _ d => uptoBulk d + 1
  | .map entries => uptoBulkEntries entries + 1
  | .held _ => 1
def uptoBulkAll {H : Type} : List (DataW H) → Nat
  | [] => 0
  | d :: r => uptoBulk d + uptoBulkAll r
def uptoBulkEntries {H : Type} : List (Lit × DataW H) → Nat
  | [] => 0
  | x :: r => uptoBulkEntry x + uptoBulkEntries r
def uptoBulkEntry {H : Type} : Lit × DataW H → Nat
  | (.string bytes, d) => bytes.length + uptoBulk d + 1
  | (_, d) => uptoBulk d + 1
 end
def uptoSmall : (H : Type) → List (DataW H) → Bool := fun _ ds => decide (uptoBulkAll ds ≤ 1048576)
def OpenSpec.upto (s : _root_.Go.ChangeSpec) : _root_.Go.OpenSpec := { _root_.Go.OpenSpec.ofChange s with cond := some uptoSmall }

/-- 'laws.FnExactGraphOk', WHERE WHAT IT READS IS OF BULK AT MOST 1048576: true; the input reads as it did. -/
def fnExactGraphOkUptoRow : OpenClaim := { program := "ytmpnollfdpdipaagreat", sum := "ab851d8e38744db3a40aea8d9c493dd73103ee520ad6d11abe20b6545f07e905", func := "loop.example/g00033/laws.FnExactGraphOk", spec := "fnExactGraphOk", inPlace := ["internal/bytealg.IndexByteString", "internal/bytealg.IndexString"], unfollowed := true, recurses := true, named := ["internal/bytealg.MaxLen"], apart := false, narrowed := true }
def FnExactGraphOkUptoSaid : Prop := fnExactGraphOkUptoRow.holds Tryz.pinned (OpenSpec.upto fnExactGraphOkSpec)

/-- 'laws.FnExactInputs', WHERE WHAT IT READS IS OF BULK AT MOST 1048576: true; the input reads as it did. -/
def fnExactInputsUptoRow : OpenClaim := { program := "ytmpnollfdpdipaagreat", sum := "ab851d8e38744db3a40aea8d9c493dd73103ee520ad6d11abe20b6545f07e905", func := "loop.example/g00033/laws.FnExactInputs", spec := "fnExactInputs", inPlace := ["internal/bytealg.IndexByteString", "internal/bytealg.IndexString"], unfollowed := true, recurses := true, named := ["internal/bytealg.MaxLen"], apart := false, narrowed := true }
def FnExactInputsUptoSaid : Prop := fnExactInputsUptoRow.holds Tryz.pinned (OpenSpec.upto fnExactInputsSpec)

/-- 'laws.FnExactShapes', WHERE WHAT IT READS IS OF BULK AT MOST 1048576: true; the input reads as it did. -/
def fnExactShapesUptoRow : OpenClaim := { program := "ytmpnollfdpdipaagreat", sum := "ab851d8e38744db3a40aea8d9c493dd73103ee520ad6d11abe20b6545f07e905", func := "loop.example/g00033/laws.FnExactShapes", spec := "fnExactShapes", inPlace := ["internal/bytealg.IndexByteString", "internal/bytealg.IndexString"], unfollowed := true, recurses := true, named := ["internal/bytealg.MaxLen"], apart := false, narrowed := true }
def FnExactShapesUptoSaid : Prop := fnExactShapesUptoRow.holds Tryz.pinned (OpenSpec.upto fnExactShapesSpec)

/-- 'laws.FnExactUsed', WHERE WHAT IT READS IS OF BULK AT MOST 1048576: true; the input reads as it did. -/
def fnExactUsedUptoRow : OpenClaim := { program := "ytmpnollfdpdipaagreat", sum := "ab851d8e38744db3a40aea8d9c493dd73103ee520ad6d11abe20b6545f07e905", func := "loop.example/g00033/laws.FnExactUsed", spec := "fnExactUsed", inPlace := ["internal/bytealg.IndexByteString", "internal/bytealg.IndexString"], unfollowed := true, recurses := true, named := ["internal/bytealg.MaxLen"], apart := false, narrowed := true }
def FnExactUsedUptoSaid : Prop := fnExactUsedUptoRow.holds Tryz.pinned (OpenSpec.upto fnExactUsedSpec)

/-- 'laws.FnExactKeepOk', WHERE WHAT IT READS IS OF BULK AT MOST 1048576: true; the input reads as it did. -/
def fnExactKeepOkUptoRow : OpenClaim := { program := "ytmpnollfdpdipaagreat", sum := "ab851d8e38744db3a40aea8d9c493dd73103ee520ad6d11abe20b6545f07e905", func := "loop.example/g00033/laws.FnExactKeepOk", spec := "fnExactKeepOk", inPlace := ["internal/bytealg.IndexByteString", "internal/bytealg.IndexString"], unfollowed := true, recurses := true, named := ["internal/bytealg.MaxLen"], apart := false, narrowed := true }
def FnExactKeepOkUptoSaid : Prop := fnExactKeepOkUptoRow.holds Tryz.pinned (OpenSpec.upto fnExactKeepOkSpec)

/-- 'laws.FnExactDegrees', WHERE WHAT IT READS IS OF BULK AT MOST 1048576: true; the input reads as it did. -/
def fnExactDegreesUptoRow : OpenClaim := { program := "ytmpnollfdpdipaagreat", sum := "ab851d8e38744db3a40aea8d9c493dd73103ee520ad6d11abe20b6545f07e905", func := "loop.example/g00033/laws.FnExactDegrees", spec := "fnExactDegrees", inPlace := ["internal/bytealg.IndexByteString", "internal/bytealg.IndexString"], unfollowed := true, recurses := true, named := ["internal/bytealg.MaxLen"], apart := false, narrowed := true }
def FnExactDegreesUptoSaid : Prop := fnExactDegreesUptoRow.holds Tryz.pinned (OpenSpec.upto fnExactDegreesSpec)

end Rows
end Go.Proofs.YtmpnollfdpdipaaGreat
