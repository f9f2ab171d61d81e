/-
  No cell of these rows narrows 'for every input' (looked for: loops, veiled, ifaces, maps, wideKeys, modest, calm, conditions, laid).
  DERIVED. THE GIVEN ROWS OF THIS SEAT. 12 by the template 'for every input the law returns true; each argument reads behind the call as it read before'; 0 by the template 'total and deterministic' (their statements: YtipgopapohigpaaTotals.lean).
  GIVEN WITH THE SEED: the statements are not yours to turn. If you find one false, say at which input.
  Laid BY PROGRAM, IN A SANDBOX (cutbox-rows.mjs): the forced cells as the released guide's own fill.sh prints them over the translation 22cff41b451e4714… (all of the seat's roots in one cut). By AI agents, Wed Nov 11 2026. No macro, syntax, notation, axiom, sorry.
-/
import Derived.Test.YtipgopapohigpaaChecked
import GoSem.Claim
import GoSem.ClaimJoined
import GoSem.ClaimMapViews
import Derived.JoinedTies
import Derived.KernelRfl
namespace Go.Proofs.Ytipgopapohigpaa
/- THE CELL 'sum', in the pinned program and in every row, IS THE sha256 OF THE DUMP (.gsa) THAT YtipgopapohigpaaProg.lean LOADS. Nothing in Lean hashes anything: it is a label: what it is worth is what the hold of that sum in a sandbox is worth. -/
noncomputable def Try.pinned : Pinned := { name := "ytipgopapohigpaa", sum := "22cff41b451e47141e307ec00ce9c6225a0e55b768e0951ff7cb28f4c45813f2", checked := Try.checked }
namespace Rows
def none {H : Type} : Left H := { results := [], args := [] }

/-- 'laws.FnNormalRange': WHATEVER THE INPUT: true; the input reads as it did. -/
def fnNormalRangeSpec : ChangeSpec := { name := "fnNormalRange", fn := fun _ => fun
  | [d] => { results := [.lit (.bool true)], args := [d] }
  | _ => none }
def fnNormalRangeRow : OpenClaim := { program := "ytipgopapohigpaa", sum := "22cff41b451e47141e307ec00ce9c6225a0e55b768e0951ff7cb28f4c45813f2", func := "loop.example/strideviews/laws.FnNormalRange", spec := "fnNormalRange", apart := false }
def FnNormalRangeSaid : Prop := fnNormalRangeRow.holds Try.pinned (OpenSpec.ofChange fnNormalRangeSpec)

/-- ITS FALSE NEIGHBOUR: 'it returns false'. Refute it at one input. -/
def fnNormalRangeWrong : ChangeSpec := { name := "fnNormalRange", fn := fun _ => fun
  | [d] => { results := [.lit (.bool false)], args := [d] }
  | _ => none }
def FnNormalRangeWrongFalsely : Prop := fnNormalRangeRow.holds Try.pinned (OpenSpec.ofChange fnNormalRangeWrong)

/-- 'laws.FnValidSlice': WHATEVER THE INPUT: true; the input reads as it did. -/
def fnValidSliceSpec : ChangeSpec := { name := "fnValidSlice", fn := fun _ => fun
  | [d] => { results := [.lit (.bool true)], args := [d] }
  | _ => none }
def fnValidSliceRow : OpenClaim := { program := "ytipgopapohigpaa", sum := "22cff41b451e47141e307ec00ce9c6225a0e55b768e0951ff7cb28f4c45813f2", func := "loop.example/strideviews/laws.FnValidSlice", spec := "fnValidSlice", apart := false }
def FnValidSliceSaid : Prop := fnValidSliceRow.holds Try.pinned (OpenSpec.ofChange fnValidSliceSpec)

/-- ITS FALSE NEIGHBOUR: 'it returns false'. Refute it at one input. -/
def fnValidSliceWrong : ChangeSpec := { name := "fnValidSlice", fn := fun _ => fun
  | [d] => { results := [.lit (.bool false)], args := [d] }
  | _ => none }
def FnValidSliceWrongFalsely : Prop := fnValidSliceRow.holds Try.pinned (OpenSpec.ofChange fnValidSliceWrong)

/-- 'laws.FnNumbersOf': WHATEVER THE INPUT: true; the input reads as it did. -/
def fnNumbersOfSpec : ChangeSpec := { name := "fnNumbersOf", fn := fun _ => fun
  | [d] => { results := [.lit (.bool true)], args := [d] }
  | _ => none }
def fnNumbersOfRow : OpenClaim := { program := "ytipgopapohigpaa", sum := "22cff41b451e47141e307ec00ce9c6225a0e55b768e0951ff7cb28f4c45813f2", func := "loop.example/strideviews/laws.FnNumbersOf", spec := "fnNumbersOf", apart := false }
def FnNumbersOfSaid : Prop := fnNumbersOfRow.holds Try.pinned (OpenSpec.ofChange fnNumbersOfSpec)

/-- ITS FALSE NEIGHBOUR: 'it returns false'. Refute it at one input. -/
def fnNumbersOfWrong : ChangeSpec := { name := "fnNumbersOf", fn := fun _ => fun
  | [d] => { results := [.lit (.bool false)], args := [d] }
  | _ => none }
def FnNumbersOfWrongFalsely : Prop := fnNumbersOfRow.holds Try.pinned (OpenSpec.ofChange fnNumbersOfWrong)

/-- 'laws.FnValidRange': WHATEVER THE INPUT: true; the input reads as it did. -/
def fnValidRangeSpec : ChangeSpec := { name := "fnValidRange", fn := fun _ => fun
  | [d] => { results := [.lit (.bool true)], args := [d] }
  | _ => none }
def fnValidRangeRow : OpenClaim := { program := "ytipgopapohigpaa", sum := "22cff41b451e47141e307ec00ce9c6225a0e55b768e0951ff7cb28f4c45813f2", func := "loop.example/strideviews/laws.FnValidRange", spec := "fnValidRange", apart := false }
def FnValidRangeSaid : Prop := fnValidRangeRow.holds Try.pinned (OpenSpec.ofChange fnValidRangeSpec)

/-- ITS FALSE NEIGHBOUR: 'it returns false'. Refute it at one input. -/
def fnValidRangeWrong : ChangeSpec := { name := "fnValidRange", fn := fun _ => fun
  | [d] => { results := [.lit (.bool false)], args := [d] }
  | _ => none }
def FnValidRangeWrongFalsely : Prop := fnValidRangeRow.holds Try.pinned (OpenSpec.ofChange fnValidRangeWrong)

/-- 'laws.FnPlaceOf': WHATEVER THE INPUT: true; the input reads as it did. -/
def fnPlaceOfSpec : ChangeSpec := { name := "fnPlaceOf", fn := fun _ => fun
  | [d] => { results := [.lit (.bool true)], args := [d] }
  | _ => none }
def fnPlaceOfRow : OpenClaim := { program := "ytipgopapohigpaa", sum := "22cff41b451e47141e307ec00ce9c6225a0e55b768e0951ff7cb28f4c45813f2", func := "loop.example/strideviews/laws.FnPlaceOf", spec := "fnPlaceOf", apart := false }
def FnPlaceOfSaid : Prop := fnPlaceOfRow.holds Try.pinned (OpenSpec.ofChange fnPlaceOfSpec)

/-- ITS FALSE NEIGHBOUR: 'it returns false'. Refute it at one input. -/
def fnPlaceOfWrong : ChangeSpec := { name := "fnPlaceOf", fn := fun _ => fun
  | [d] => { results := [.lit (.bool false)], args := [d] }
  | _ => none }
def FnPlaceOfWrongFalsely : Prop := fnPlaceOfRow.holds Try.pinned (OpenSpec.ofChange fnPlaceOfWrong)

/-- 'laws.FnLenOf': WHATEVER THE INPUT: true; the input reads as it did. -/
def fnLenOfSpec : ChangeSpec := { name := "fnLenOf", fn := fun _ => fun
  | [d] => { results := [.lit (.bool true)], args := [d] }
  | _ => none }
def fnLenOfRow : OpenClaim := { program := "ytipgopapohigpaa", sum := "22cff41b451e47141e307ec00ce9c6225a0e55b768e0951ff7cb28f4c45813f2", func := "loop.example/strideviews/laws.FnLenOf", spec := "fnLenOf", apart := false }
def FnLenOfSaid : Prop := fnLenOfRow.holds Try.pinned (OpenSpec.ofChange fnLenOfSpec)

/-- ITS FALSE NEIGHBOUR: 'it returns false'. Refute it at one input. -/
def fnLenOfWrong : ChangeSpec := { name := "fnLenOf", fn := fun _ => fun
  | [d] => { results := [.lit (.bool false)], args := [d] }
  | _ => none }
def FnLenOfWrongFalsely : Prop := fnLenOfRow.holds Try.pinned (OpenSpec.ofChange fnLenOfWrong)

/-- 'laws.FnNumberAt': WHATEVER THE INPUT: true; the input reads as it did. -/
def fnNumberAtSpec : ChangeSpec := { name := "fnNumberAt", fn := fun _ => fun
  | [d] => { results := [.lit (.bool true)], args := [d] }
  | _ => none }
def fnNumberAtRow : OpenClaim := { program := "ytipgopapohigpaa", sum := "22cff41b451e47141e307ec00ce9c6225a0e55b768e0951ff7cb28f4c45813f2", func := "loop.example/strideviews/laws.FnNumberAt", spec := "fnNumberAt", apart := false }
def FnNumberAtSaid : Prop := fnNumberAtRow.holds Try.pinned (OpenSpec.ofChange fnNumberAtSpec)

/-- ITS FALSE NEIGHBOUR: 'it returns false'. Refute it at one input. -/
def fnNumberAtWrong : ChangeSpec := { name := "fnNumberAt", fn := fun _ => fun
  | [d] => { results := [.lit (.bool false)], args := [d] }
  | _ => none }
def FnNumberAtWrongFalsely : Prop := fnNumberAtRow.holds Try.pinned (OpenSpec.ofChange fnNumberAtWrong)

/-- 'laws.FnSumOf': WHATEVER THE INPUT: true; the input reads as it did. -/
def fnSumOfSpec : ChangeSpec := { name := "fnSumOf", fn := fun _ => fun
  | [d] => { results := [.lit (.bool true)], args := [d] }
  | _ => none }
def fnSumOfRow : OpenClaim := { program := "ytipgopapohigpaa", sum := "22cff41b451e47141e307ec00ce9c6225a0e55b768e0951ff7cb28f4c45813f2", func := "loop.example/strideviews/laws.FnSumOf", spec := "fnSumOf", apart := false }
def FnSumOfSaid : Prop := fnSumOfRow.holds Try.pinned (OpenSpec.ofChange fnSumOfSpec)

/-- ITS FALSE NEIGHBOUR: 'it returns false'. Refute it at one input. -/
def fnSumOfWrong : ChangeSpec := { name := "fnSumOf", fn := fun _ => fun
  | [d] => { results := [.lit (.bool false)], args := [d] }
  | _ => none }
def FnSumOfWrongFalsely : Prop := fnSumOfRow.holds Try.pinned (OpenSpec.ofChange fnSumOfWrong)

/-- 'laws.FnReverseRange': WHATEVER THE INPUT: true; the input reads as it did. -/
def fnReverseRangeSpec : ChangeSpec := { name := "fnReverseRange", fn := fun _ => fun
  | [d] => { results := [.lit (.bool true)], args := [d] }
  | _ => none }
def fnReverseRangeRow : OpenClaim := { program := "ytipgopapohigpaa", sum := "22cff41b451e47141e307ec00ce9c6225a0e55b768e0951ff7cb28f4c45813f2", func := "loop.example/strideviews/laws.FnReverseRange", spec := "fnReverseRange", apart := false }
def FnReverseRangeSaid : Prop := fnReverseRangeRow.holds Try.pinned (OpenSpec.ofChange fnReverseRangeSpec)

/-- ITS FALSE NEIGHBOUR: 'it returns false'. Refute it at one input. -/
def fnReverseRangeWrong : ChangeSpec := { name := "fnReverseRange", fn := fun _ => fun
  | [d] => { results := [.lit (.bool false)], args := [d] }
  | _ => none }
def FnReverseRangeWrongFalsely : Prop := fnReverseRangeRow.holds Try.pinned (OpenSpec.ofChange fnReverseRangeWrong)

/-- 'laws.FnIndicesOfSplit': WHATEVER THE INPUT: true; the input reads as it did. -/
def fnIndicesOfSplitSpec : ChangeSpec := { name := "fnIndicesOfSplit", fn := fun _ => fun
  | [d] => { results := [.lit (.bool true)], args := [d] }
  | _ => none }
def fnIndicesOfSplitRow : OpenClaim := { program := "ytipgopapohigpaa", sum := "22cff41b451e47141e307ec00ce9c6225a0e55b768e0951ff7cb28f4c45813f2", func := "loop.example/strideviews/laws.FnIndicesOfSplit", spec := "fnIndicesOfSplit", apart := false }
def FnIndicesOfSplitSaid : Prop := fnIndicesOfSplitRow.holds Try.pinned (OpenSpec.ofChange fnIndicesOfSplitSpec)

/-- ITS FALSE NEIGHBOUR: 'it returns false'. Refute it at one input. -/
def fnIndicesOfSplitWrong : ChangeSpec := { name := "fnIndicesOfSplit", fn := fun _ => fun
  | [d] => { results := [.lit (.bool false)], args := [d] }
  | _ => none }
def FnIndicesOfSplitWrongFalsely : Prop := fnIndicesOfSplitRow.holds Try.pinned (OpenSpec.ofChange fnIndicesOfSplitWrong)

/-- 'laws.FnDealRange': WHATEVER THE INPUT: true; the input reads as it did. -/
def fnDealRangeSpec : ChangeSpec := { name := "fnDealRange", fn := fun _ => fun
  | [d] => { results := [.lit (.bool true)], args := [d] }
  | _ => none }
def fnDealRangeRow : OpenClaim := { program := "ytipgopapohigpaa", sum := "22cff41b451e47141e307ec00ce9c6225a0e55b768e0951ff7cb28f4c45813f2", func := "loop.example/strideviews/laws.FnDealRange", spec := "fnDealRange", apart := false }
def FnDealRangeSaid : Prop := fnDealRangeRow.holds Try.pinned (OpenSpec.ofChange fnDealRangeSpec)

/-- ITS FALSE NEIGHBOUR: 'it returns false'. Refute it at one input. -/
def fnDealRangeWrong : ChangeSpec := { name := "fnDealRange", fn := fun _ => fun
  | [d] => { results := [.lit (.bool false)], args := [d] }
  | _ => none }
def FnDealRangeWrongFalsely : Prop := fnDealRangeRow.holds Try.pinned (OpenSpec.ofChange fnDealRangeWrong)

/-- 'laws.FnIndicesOf': WHATEVER THE INPUT: true; the input reads as it did. -/
def fnIndicesOfSpec : ChangeSpec := { name := "fnIndicesOf", fn := fun _ => fun
  | [d] => { results := [.lit (.bool true)], args := [d] }
  | _ => none }
def fnIndicesOfRow : OpenClaim := { program := "ytipgopapohigpaa", sum := "22cff41b451e47141e307ec00ce9c6225a0e55b768e0951ff7cb28f4c45813f2", func := "loop.example/strideviews/laws.FnIndicesOf", spec := "fnIndicesOf", apart := false }
def FnIndicesOfSaid : Prop := fnIndicesOfRow.holds Try.pinned (OpenSpec.ofChange fnIndicesOfSpec)

/-- ITS FALSE NEIGHBOUR: 'it returns false'. Refute it at one input. -/
def fnIndicesOfWrong : ChangeSpec := { name := "fnIndicesOf", fn := fun _ => fun
  | [d] => { results := [.lit (.bool false)], args := [d] }
  | _ => none }
def FnIndicesOfWrongFalsely : Prop := fnIndicesOfRow.holds Try.pinned (OpenSpec.ofChange fnIndicesOfWrong)

/- THE SECOND FORM. 'bulk': how many values and letters a reading holds, each counted each time it is reached (what is shared counts as often as it is met; a slice's spare places count too). A statement '..UptoSaid' is the law's where the arguments, and the package variables that the reading takes, are together of bulk at most 1048576: NARROWER than '..Said'. Prove '..Said' where nothing that the law and all that it calls make is longer than what came in: it says more and counts as full. Else prove '..UptoSaid'. A law counts once. -/
mutual
def uptoBulk {H : Type} : DataW H → Nat
  | .lit (.string bytes) => bytes.length + 1
  | .lit _ => 1
  | .nil => 1
  | .ptr d => uptoBulk d + 1
  | .slice elems spare => uptoBulkAll elems + uptoBulkAll spare + 1
  | .agg parts => uptoBulkAll parts + 1
  | .iface _ d => uptoBulk d + 1
  | .map entries => uptoBulkEntries entries + 1
  | .held _ => 1
def uptoBulkAll {H : Type} : List (DataW H) → Nat
  | [] => 0
  | d :: r => uptoBulk d + uptoBulkAll r
def uptoBulkEntries {H : Type} : List (Lit × DataW H) → Nat
  | [] => 0
  | x :: r => uptoBulkEntry x + uptoBulkEntries r
def uptoBulkEntry {H : Type} : Lit × DataW H → Nat
  | (.string bytes, d) => bytes.length + uptoBulk d + 1
  | (_, d) => uptoBulk d + 1
 end
def uptoSmall : (H : Type) → List (DataW H) → Bool := fun _ ds => decide (uptoBulkAll ds ≤ 1048576)
def OpenSpec.upto (s : _root_.Go.ChangeSpec) : _root_.Go.OpenSpec := { _root_.Go.OpenSpec.ofChange s with cond := some uptoSmall }

/-- 'laws.FnNormalRange', WHERE WHAT IT READS IS OF BULK AT MOST 1048576: true; the input reads as it did. -/
def fnNormalRangeUptoRow : OpenClaim := { program := "ytipgopapohigpaa", sum := "22cff41b451e47141e307ec00ce9c6225a0e55b768e0951ff7cb28f4c45813f2", func := "loop.example/strideviews/laws.FnNormalRange", spec := "fnNormalRange", apart := false, narrowed := true }
def FnNormalRangeUptoSaid : Prop := fnNormalRangeUptoRow.holds Try.pinned (OpenSpec.upto fnNormalRangeSpec)

/-- 'laws.FnValidSlice', WHERE WHAT IT READS IS OF BULK AT MOST 1048576: true; the input reads as it did. -/
def fnValidSliceUptoRow : OpenClaim := { program := "ytipgopapohigpaa", sum := "22cff41b451e47141e307ec00ce9c6225a0e55b768e0951ff7cb28f4c45813f2", func := "loop.example/strideviews/laws.FnValidSlice", spec := "fnValidSlice", apart := false, narrowed := true }
def FnValidSliceUptoSaid : Prop := fnValidSliceUptoRow.holds Try.pinned (OpenSpec.upto fnValidSliceSpec)

/-- 'laws.FnNumbersOf', WHERE WHAT IT READS IS OF BULK AT MOST 1048576: true; the input reads as it did. -/
def fnNumbersOfUptoRow : OpenClaim := { program := "ytipgopapohigpaa", sum := "22cff41b451e47141e307ec00ce9c6225a0e55b768e0951ff7cb28f4c45813f2", func := "loop.example/strideviews/laws.FnNumbersOf", spec := "fnNumbersOf", apart := false, narrowed := true }
def FnNumbersOfUptoSaid : Prop := fnNumbersOfUptoRow.holds Try.pinned (OpenSpec.upto fnNumbersOfSpec)

/-- 'laws.FnValidRange', WHERE WHAT IT READS IS OF BULK AT MOST 1048576: true; the input reads as it did. -/
def fnValidRangeUptoRow : OpenClaim := { program := "ytipgopapohigpaa", sum := "22cff41b451e47141e307ec00ce9c6225a0e55b768e0951ff7cb28f4c45813f2", func := "loop.example/strideviews/laws.FnValidRange", spec := "fnValidRange", apart := false, narrowed := true }
def FnValidRangeUptoSaid : Prop := fnValidRangeUptoRow.holds Try.pinned (OpenSpec.upto fnValidRangeSpec)

/-- 'laws.FnPlaceOf', WHERE WHAT IT READS IS OF BULK AT MOST 1048576: true; the input reads as it did. -/
def fnPlaceOfUptoRow : OpenClaim := { program := "ytipgopapohigpaa", sum := "22cff41b451e47141e307ec00ce9c6225a0e55b768e0951ff7cb28f4c45813f2", func := "loop.example/strideviews/laws.FnPlaceOf", spec := "fnPlaceOf", apart := false, narrowed := true }
def FnPlaceOfUptoSaid : Prop := fnPlaceOfUptoRow.holds Try.pinned (OpenSpec.upto fnPlaceOfSpec)

/-- 'laws.FnLenOf', WHERE WHAT IT READS IS OF BULK AT MOST 1048576: true; the input reads as it did. -/
def fnLenOfUptoRow : OpenClaim := { program := "ytipgopapohigpaa", sum := "22cff41b451e47141e307ec00ce9c6225a0e55b768e0951ff7cb28f4c45813f2", func := "loop.example/strideviews/laws.FnLenOf", spec := "fnLenOf", apart := false, narrowed := true }
def FnLenOfUptoSaid : Prop := fnLenOfUptoRow.holds Try.pinned (OpenSpec.upto fnLenOfSpec)

/-- 'laws.FnNumberAt', WHERE WHAT IT READS IS OF BULK AT MOST 1048576: true; the input reads as it did. -/
def fnNumberAtUptoRow : OpenClaim := { program := "ytipgopapohigpaa", sum := "22cff41b451e47141e307ec00ce9c6225a0e55b768e0951ff7cb28f4c45813f2", func := "loop.example/strideviews/laws.FnNumberAt", spec := "fnNumberAt", apart := false, narrowed := true }
def FnNumberAtUptoSaid : Prop := fnNumberAtUptoRow.holds Try.pinned (OpenSpec.upto fnNumberAtSpec)

/-- 'laws.FnSumOf', WHERE WHAT IT READS IS OF BULK AT MOST 1048576: true; the input reads as it did. -/
def fnSumOfUptoRow : OpenClaim := { program := "ytipgopapohigpaa", sum := "22cff41b451e47141e307ec00ce9c6225a0e55b768e0951ff7cb28f4c45813f2", func := "loop.example/strideviews/laws.FnSumOf", spec := "fnSumOf", apart := false, narrowed := true }
def FnSumOfUptoSaid : Prop := fnSumOfUptoRow.holds Try.pinned (OpenSpec.upto fnSumOfSpec)

/-- 'laws.FnReverseRange', WHERE WHAT IT READS IS OF BULK AT MOST 1048576: true; the input reads as it did. -/
def fnReverseRangeUptoRow : OpenClaim := { program := "ytipgopapohigpaa", sum := "22cff41b451e47141e307ec00ce9c6225a0e55b768e0951ff7cb28f4c45813f2", func := "loop.example/strideviews/laws.FnReverseRange", spec := "fnReverseRange", apart := false, narrowed := true }
def FnReverseRangeUptoSaid : Prop := fnReverseRangeUptoRow.holds Try.pinned (OpenSpec.upto fnReverseRangeSpec)

/-- 'laws.FnIndicesOfSplit', WHERE WHAT IT READS IS OF BULK AT MOST 1048576: true; the input reads as it did. -/
def fnIndicesOfSplitUptoRow : OpenClaim := { program := "ytipgopapohigpaa", sum := "22cff41b451e47141e307ec00ce9c6225a0e55b768e0951ff7cb28f4c45813f2", func := "loop.example/strideviews/laws.FnIndicesOfSplit", spec := "fnIndicesOfSplit", apart := false, narrowed := true }
def FnIndicesOfSplitUptoSaid : Prop := fnIndicesOfSplitUptoRow.holds Try.pinned (OpenSpec.upto fnIndicesOfSplitSpec)

/-- 'laws.FnDealRange', WHERE WHAT IT READS IS OF BULK AT MOST 1048576: true; the input reads as it did. -/
def fnDealRangeUptoRow : OpenClaim := { program := "ytipgopapohigpaa", sum := "22cff41b451e47141e307ec00ce9c6225a0e55b768e0951ff7cb28f4c45813f2", func := "loop.example/strideviews/laws.FnDealRange", spec := "fnDealRange", apart := false, narrowed := true }
def FnDealRangeUptoSaid : Prop := fnDealRangeUptoRow.holds Try.pinned (OpenSpec.upto fnDealRangeSpec)

/-- 'laws.FnIndicesOf', WHERE WHAT IT READS IS OF BULK AT MOST 1048576: true; the input reads as it did. -/
def fnIndicesOfUptoRow : OpenClaim := { program := "ytipgopapohigpaa", sum := "22cff41b451e47141e307ec00ce9c6225a0e55b768e0951ff7cb28f4c45813f2", func := "loop.example/strideviews/laws.FnIndicesOf", spec := "fnIndicesOf", apart := false, narrowed := true }
def FnIndicesOfUptoSaid : Prop := fnIndicesOfUptoRow.holds Try.pinned (OpenSpec.upto fnIndicesOfSpec)

end Rows
end Go.Proofs.Ytipgopapohigpaa
