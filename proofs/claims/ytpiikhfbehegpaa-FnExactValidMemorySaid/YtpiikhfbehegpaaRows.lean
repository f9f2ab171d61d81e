/-
  No cell of these rows narrows 'for every input' (looked for: loops, veiled, ifaces, maps, wideKeys, modest, calm, conditions, laid).
  DERIVED. THE GIVEN ROWS OF THIS SEAT. 6 by the template 'for every input the law returns true; each argument reads behind the call as it read before'; 0 by the template 'total and deterministic' (their statements: YtpiikhfbehegpaaTotals.lean).
  GIVEN WITH THE SEED: the statements are not yours to turn. If you find one false, say at which input.
  Laid BY PROGRAM, IN A SANDBOX (cutbox-rows.mjs): the forced cells as the released guide's own fill.sh prints them over the translation e747c5f490177ae1… (all of the seat's roots in one cut). By AI agents, Wed Nov 11 2026. No macro, syntax, notation, axiom, sorry.
-/
import Derived.Test.YtpiikhfbehegpaaChecked
import GoSem.Claim
import GoSem.ClaimJoined
import GoSem.ClaimMapViews
import Derived.JoinedTies
import Derived.KernelRfl
namespace Go.Proofs.Ytpiikhfbehegpaa
/- THE CELL 'sum', in the pinned program and in every row, IS THE sha256 OF THE DUMP (.gsa) THAT YtpiikhfbehegpaaProg.lean LOADS. Nothing in Lean hashes anything: it is a label: what it is worth is what the hold of that sum in a sandbox is worth. -/
noncomputable def Try.pinned : Pinned := { name := "ytpiikhfbehegpaa", sum := "e747c5f490177ae1149ab9fec439c47261d5ecee48c179d775da8ba8b2cd0e0e", checked := Try.checked }
namespace Rows
def none {H : Type} : Left H := { results := [], args := [] }

/-- 'laws.FnExactConstants': WHATEVER THE INPUT: true; the input reads as it did. -/
def fnExactConstantsSpec : ChangeSpec := { name := "fnExactConstants", fn := fun _ => fun
  | [] => { results := [.lit (.bool true)], args := [] }
  | _ => none }
def fnExactConstantsRow : OpenClaim := { program := "ytpiikhfbehegpaa", sum := "e747c5f490177ae1149ab9fec439c47261d5ecee48c179d775da8ba8b2cd0e0e", func := "loop.example/strideviews/laws.FnExactConstants", spec := "fnExactConstants", apart := false }
def FnExactConstantsSaid : Prop := fnExactConstantsRow.holds Try.pinned (OpenSpec.ofChange fnExactConstantsSpec)

/-- ITS FALSE NEIGHBOUR: 'it returns false'. Refute it at one input. -/
def fnExactConstantsWrong : ChangeSpec := { name := "fnExactConstants", fn := fun _ => fun
  | [] => { results := [.lit (.bool false)], args := [] }
  | _ => none }
def FnExactConstantsWrongFalsely : Prop := fnExactConstantsRow.holds Try.pinned (OpenSpec.ofChange fnExactConstantsWrong)

/-- 'laws.FnExactValidRange': WHATEVER THE INPUT: true; the input reads as it did. -/
def fnExactValidRangeSpec : ChangeSpec := { name := "fnExactValidRange", fn := fun _ => fun
  | [d] => { results := [.lit (.bool true)], args := [d] }
  | _ => none }
def fnExactValidRangeRow : OpenClaim := { program := "ytpiikhfbehegpaa", sum := "e747c5f490177ae1149ab9fec439c47261d5ecee48c179d775da8ba8b2cd0e0e", func := "loop.example/strideviews/laws.FnExactValidRange", spec := "fnExactValidRange", apart := false }
def FnExactValidRangeSaid : Prop := fnExactValidRangeRow.holds Try.pinned (OpenSpec.ofChange fnExactValidRangeSpec)

/-- ITS FALSE NEIGHBOUR: 'it returns false'. Refute it at one input. -/
def fnExactValidRangeWrong : ChangeSpec := { name := "fnExactValidRange", fn := fun _ => fun
  | [d] => { results := [.lit (.bool false)], args := [d] }
  | _ => none }
def FnExactValidRangeWrongFalsely : Prop := fnExactValidRangeRow.holds Try.pinned (OpenSpec.ofChange fnExactValidRangeWrong)

/-- 'laws.FnExactValidSlice': WHATEVER THE INPUT: true; the input reads as it did. -/
def fnExactValidSliceSpec : ChangeSpec := { name := "fnExactValidSlice", fn := fun _ => fun
  | [d] => { results := [.lit (.bool true)], args := [d] }
  | _ => none }
def fnExactValidSliceRow : OpenClaim := { program := "ytpiikhfbehegpaa", sum := "e747c5f490177ae1149ab9fec439c47261d5ecee48c179d775da8ba8b2cd0e0e", func := "loop.example/strideviews/laws.FnExactValidSlice", spec := "fnExactValidSlice", apart := false }
def FnExactValidSliceSaid : Prop := fnExactValidSliceRow.holds Try.pinned (OpenSpec.ofChange fnExactValidSliceSpec)

/-- ITS FALSE NEIGHBOUR: 'it returns false'. Refute it at one input. -/
def fnExactValidSliceWrong : ChangeSpec := { name := "fnExactValidSlice", fn := fun _ => fun
  | [d] => { results := [.lit (.bool false)], args := [d] }
  | _ => none }
def FnExactValidSliceWrongFalsely : Prop := fnExactValidSliceRow.holds Try.pinned (OpenSpec.ofChange fnExactValidSliceWrong)

/-- 'laws.FnExactLenOf': WHATEVER THE INPUT: true; the input reads as it did. -/
def fnExactLenOfSpec : ChangeSpec := { name := "fnExactLenOf", fn := fun _ => fun
  | [d] => { results := [.lit (.bool true)], args := [d] }
  | _ => none }
def fnExactLenOfRow : OpenClaim := { program := "ytpiikhfbehegpaa", sum := "e747c5f490177ae1149ab9fec439c47261d5ecee48c179d775da8ba8b2cd0e0e", func := "loop.example/strideviews/laws.FnExactLenOf", spec := "fnExactLenOf", apart := false }
def FnExactLenOfSaid : Prop := fnExactLenOfRow.holds Try.pinned (OpenSpec.ofChange fnExactLenOfSpec)

/-- ITS FALSE NEIGHBOUR: 'it returns false'. Refute it at one input. -/
def fnExactLenOfWrong : ChangeSpec := { name := "fnExactLenOf", fn := fun _ => fun
  | [d] => { results := [.lit (.bool false)], args := [d] }
  | _ => none }
def FnExactLenOfWrongFalsely : Prop := fnExactLenOfRow.holds Try.pinned (OpenSpec.ofChange fnExactLenOfWrong)

/-- 'laws.FnExactSumOf': WHATEVER THE INPUT: true; the input reads as it did. -/
def fnExactSumOfSpec : ChangeSpec := { name := "fnExactSumOf", fn := fun _ => fun
  | [d] => { results := [.lit (.bool true)], args := [d] }
  | _ => none }
def fnExactSumOfRow : OpenClaim := { program := "ytpiikhfbehegpaa", sum := "e747c5f490177ae1149ab9fec439c47261d5ecee48c179d775da8ba8b2cd0e0e", func := "loop.example/strideviews/laws.FnExactSumOf", spec := "fnExactSumOf", apart := false }
def FnExactSumOfSaid : Prop := fnExactSumOfRow.holds Try.pinned (OpenSpec.ofChange fnExactSumOfSpec)

/-- ITS FALSE NEIGHBOUR: 'it returns false'. Refute it at one input. -/
def fnExactSumOfWrong : ChangeSpec := { name := "fnExactSumOf", fn := fun _ => fun
  | [d] => { results := [.lit (.bool false)], args := [d] }
  | _ => none }
def FnExactSumOfWrongFalsely : Prop := fnExactSumOfRow.holds Try.pinned (OpenSpec.ofChange fnExactSumOfWrong)

/-- 'laws.FnExactValidMemory': WHATEVER THE INPUT: true; the input reads as it did. -/
def fnExactValidMemorySpec : ChangeSpec := { name := "fnExactValidMemory", fn := fun _ => fun
  | [d] => { results := [.lit (.bool true)], args := [d] }
  | _ => none }
def fnExactValidMemoryRow : OpenClaim := { program := "ytpiikhfbehegpaa", sum := "e747c5f490177ae1149ab9fec439c47261d5ecee48c179d775da8ba8b2cd0e0e", func := "loop.example/strideviews/laws.FnExactValidMemory", spec := "fnExactValidMemory", unfollowed := true, recurses := true, apart := false }
def FnExactValidMemorySaid : Prop := fnExactValidMemoryRow.holds Try.pinned (OpenSpec.ofChange fnExactValidMemorySpec)

/-- ITS FALSE NEIGHBOUR: 'it returns false'. Refute it at one input. -/
def fnExactValidMemoryWrong : ChangeSpec := { name := "fnExactValidMemory", fn := fun _ => fun
  | [d] => { results := [.lit (.bool false)], args := [d] }
  | _ => none }
def FnExactValidMemoryWrongFalsely : Prop := fnExactValidMemoryRow.holds Try.pinned (OpenSpec.ofChange fnExactValidMemoryWrong)

/- THE SECOND FORM. 'bulk': how many values and letters a reading holds, each counted each time it is reached (what is shared counts as often as it is met; a slice's spare places count too). A statement '..UptoSaid' is the law's where the arguments, and the package variables that the reading takes, are together of bulk at most 1048576: NARROWER than '..Said'. Prove '..Said' where nothing that the law and all that it calls make is longer than what came in: it says more and counts as full. Else prove '..UptoSaid'. A law counts once. -/
mutual
def uptoBulk {H : Type} : DataW H → Nat
  | .lit (.string bytes) => bytes.length + 1
  | .lit _ => 1
  | .nil => 1
  | .ptr d => uptoBulk d + 1
  | .slice elems spare => uptoBulkAll elems + uptoBulkAll spare + 1
  | .agg parts => uptoBulkAll parts + 1
  | .iface _ d => uptoBulk d + 1
  | .map entries => uptoBulkEntries entries + 1
  | .held _ => 1
def uptoBulkAll {H : Type} : List (DataW H) → Nat
  | [] => 0
  | d :: r => uptoBulk d + uptoBulkAll r
def uptoBulkEntries {H : Type} : List (Lit × DataW H) → Nat
  | [] => 0
  | x :: r => uptoBulkEntry x + uptoBulkEntries r
def uptoBulkEntry {H : Type} : Lit × DataW H → Nat
  | (.string bytes, d) => bytes.length + uptoBulk d + 1
  | (_, d) => uptoBulk d + 1
 end
def uptoSmall : (H : Type) → List (DataW H) → Bool := fun _ ds => decide (uptoBulkAll ds ≤ 1048576)
def OpenSpec.upto (s : _root_.Go.ChangeSpec) : _root_.Go.OpenSpec := { _root_.Go.OpenSpec.ofChange s with cond := some uptoSmall }

/-- 'laws.FnExactConstants', WHERE WHAT IT READS IS OF BULK AT MOST 1048576: true; the input reads as it did. -/
def fnExactConstantsUptoRow : OpenClaim := { program := "ytpiikhfbehegpaa", sum := "e747c5f490177ae1149ab9fec439c47261d5ecee48c179d775da8ba8b2cd0e0e", func := "loop.example/strideviews/laws.FnExactConstants", spec := "fnExactConstants", apart := false, narrowed := true }
def FnExactConstantsUptoSaid : Prop := fnExactConstantsUptoRow.holds Try.pinned (OpenSpec.upto fnExactConstantsSpec)

/-- 'laws.FnExactValidRange', WHERE WHAT IT READS IS OF BULK AT MOST 1048576: true; the input reads as it did. -/
def fnExactValidRangeUptoRow : OpenClaim := { program := "ytpiikhfbehegpaa", sum := "e747c5f490177ae1149ab9fec439c47261d5ecee48c179d775da8ba8b2cd0e0e", func := "loop.example/strideviews/laws.FnExactValidRange", spec := "fnExactValidRange", apart := false, narrowed := true }
def FnExactValidRangeUptoSaid : Prop := fnExactValidRangeUptoRow.holds Try.pinned (OpenSpec.upto fnExactValidRangeSpec)

/-- 'laws.FnExactValidSlice', WHERE WHAT IT READS IS OF BULK AT MOST 1048576: true; the input reads as it did. -/
def fnExactValidSliceUptoRow : OpenClaim := { program := "ytpiikhfbehegpaa", sum := "e747c5f490177ae1149ab9fec439c47261d5ecee48c179d775da8ba8b2cd0e0e", func := "loop.example/strideviews/laws.FnExactValidSlice", spec := "fnExactValidSlice", apart := false, narrowed := true }
def FnExactValidSliceUptoSaid : Prop := fnExactValidSliceUptoRow.holds Try.pinned (OpenSpec.upto fnExactValidSliceSpec)

/-- 'laws.FnExactLenOf', WHERE WHAT IT READS IS OF BULK AT MOST 1048576: true; the input reads as it did. -/
def fnExactLenOfUptoRow : OpenClaim := { program := "ytpiikhfbehegpaa", sum := "e747c5f490177ae1149ab9fec439c47261d5ecee48c179d775da8ba8b2cd0e0e", func := "loop.example/strideviews/laws.FnExactLenOf", spec := "fnExactLenOf", apart := false, narrowed := true }
def FnExactLenOfUptoSaid : Prop := fnExactLenOfUptoRow.holds Try.pinned (OpenSpec.upto fnExactLenOfSpec)

/-- 'laws.FnExactSumOf', WHERE WHAT IT READS IS OF BULK AT MOST 1048576: true; the input reads as it did. -/
def fnExactSumOfUptoRow : OpenClaim := { program := "ytpiikhfbehegpaa", sum := "e747c5f490177ae1149ab9fec439c47261d5ecee48c179d775da8ba8b2cd0e0e", func := "loop.example/strideviews/laws.FnExactSumOf", spec := "fnExactSumOf", apart := false, narrowed := true }
def FnExactSumOfUptoSaid : Prop := fnExactSumOfUptoRow.holds Try.pinned (OpenSpec.upto fnExactSumOfSpec)

/-- 'laws.FnExactValidMemory', WHERE WHAT IT READS IS OF BULK AT MOST 1048576: true; the input reads as it did. -/
def fnExactValidMemoryUptoRow : OpenClaim := { program := "ytpiikhfbehegpaa", sum := "e747c5f490177ae1149ab9fec439c47261d5ecee48c179d775da8ba8b2cd0e0e", func := "loop.example/strideviews/laws.FnExactValidMemory", spec := "fnExactValidMemory", unfollowed := true, recurses := true, apart := false, narrowed := true }
def FnExactValidMemoryUptoSaid : Prop := fnExactValidMemoryUptoRow.holds Try.pinned (OpenSpec.upto fnExactValidMemorySpec)

end Rows
end Go.Proofs.Ytpiikhfbehegpaa
