/-
  No cell of these rows narrows 'for every input' (looked for: loops, veiled, ifaces, maps, wideKeys, modest, calm, conditions, laid).
  DERIVED. THE GIVEN ROWS OF THIS SEAT. 12 by the template 'for every input the law returns true; each argument reads behind the call as it read before'; 0 by the template 'total and deterministic' (their statements: YtdhhdkncglhgfaaTotals.lean).
  GIVEN WITH THE SEED: the statements are not yours to turn. If you find one false, say at which input.
  Laid BY PROGRAM, IN A SANDBOX (cutbox-rows.mjs): the forced cells as the released guide's own fill.sh prints them over the translation 65bb8a585f72fd5c… (all of the seat's roots in one cut). By AI agents, Wed Nov 11 2026. No macro, syntax, notation, axiom, sorry.
-/
import Derived.Test.YtdhhdkncglhgfaaChecked
import GoSem.Claim
import GoSem.ClaimJoined
import GoSem.ClaimMapViews
import Derived.JoinedTies
import Derived.KernelRfl
namespace Go.Proofs.Ytdhhdkncglhgfaa
/- THE CELL 'sum', in the pinned program and in every row, IS THE sha256 OF THE DUMP (.gsa) THAT YtdhhdkncglhgfaaProg.lean LOADS. Nothing in Lean hashes anything: it is a label: what it is worth is what the hold of that sum in a sandbox is worth. -/
noncomputable def Try.pinned : Pinned := { name := "ytdhhdkncglhgfaa", sum := "65bb8a585f72fd5c033b8d7a63f279f65062622d3fa75a1751b8db4e797bf3f3", checked := Try.checked }
namespace Rows
def none {H : Type} : Left H := { results := [], args := [] }

/-- 'laws.FnNewBuffer': WHATEVER THE INPUT: true; the input reads as it did. -/
def fnNewBufferSpec : ChangeSpec := { name := "fnNewBuffer", fn := fun _ => fun
  | [d] => { results := [.lit (.bool true)], args := [d] }
  | _ => none }
def fnNewBufferRow : OpenClaim := { program := "ytdhhdkncglhgfaa", sum := "65bb8a585f72fd5c033b8d7a63f279f65062622d3fa75a1751b8db4e797bf3f3", func := "loop.example/strideviews/laws.FnNewBuffer", spec := "fnNewBuffer", unfollowed := true, recurses := true, apart := false }
def FnNewBufferSaid : Prop := fnNewBufferRow.holds Try.pinned (OpenSpec.ofChange fnNewBufferSpec)

/-- ITS FALSE NEIGHBOUR: 'it returns false'. Refute it at one input. -/
def fnNewBufferWrong : ChangeSpec := { name := "fnNewBuffer", fn := fun _ => fun
  | [d] => { results := [.lit (.bool false)], args := [d] }
  | _ => none }
def FnNewBufferWrongFalsely : Prop := fnNewBufferRow.holds Try.pinned (OpenSpec.ofChange fnNewBufferWrong)

/-- 'laws.FnValidMemory': WHATEVER THE INPUT: true; the input reads as it did. -/
def fnValidMemorySpec : ChangeSpec := { name := "fnValidMemory", fn := fun _ => fun
  | [d] => { results := [.lit (.bool true)], args := [d] }
  | _ => none }
def fnValidMemoryRow : OpenClaim := { program := "ytdhhdkncglhgfaa", sum := "65bb8a585f72fd5c033b8d7a63f279f65062622d3fa75a1751b8db4e797bf3f3", func := "loop.example/strideviews/laws.FnValidMemory", spec := "fnValidMemory", unfollowed := true, recurses := true, apart := false }
def FnValidMemorySaid : Prop := fnValidMemoryRow.holds Try.pinned (OpenSpec.ofChange fnValidMemorySpec)

/-- ITS FALSE NEIGHBOUR: 'it returns false'. Refute it at one input. -/
def fnValidMemoryWrong : ChangeSpec := { name := "fnValidMemory", fn := fun _ => fun
  | [d] => { results := [.lit (.bool false)], args := [d] }
  | _ => none }
def FnValidMemoryWrongFalsely : Prop := fnValidMemoryRow.holds Try.pinned (OpenSpec.ofChange fnValidMemoryWrong)

/-- 'laws.FnValidFormat': WHATEVER THE INPUT: true; the input reads as it did. -/
def fnValidFormatSpec : ChangeSpec := { name := "fnValidFormat", fn := fun _ => fun
  | [d] => { results := [.lit (.bool true)], args := [d] }
  | _ => none }
def fnValidFormatRow : OpenClaim := { program := "ytdhhdkncglhgfaa", sum := "65bb8a585f72fd5c033b8d7a63f279f65062622d3fa75a1751b8db4e797bf3f3", func := "loop.example/strideviews/laws.FnValidFormat", spec := "fnValidFormat", unfollowed := true, recurses := true, apart := false }
def FnValidFormatSaid : Prop := fnValidFormatRow.holds Try.pinned (OpenSpec.ofChange fnValidFormatSpec)

/-- ITS FALSE NEIGHBOUR: 'it returns false'. Refute it at one input. -/
def fnValidFormatWrong : ChangeSpec := { name := "fnValidFormat", fn := fun _ => fun
  | [d] => { results := [.lit (.bool false)], args := [d] }
  | _ => none }
def FnValidFormatWrongFalsely : Prop := fnValidFormatRow.holds Try.pinned (OpenSpec.ofChange fnValidFormatWrong)

/-- 'laws.FnValidShape': WHATEVER THE INPUT: true; the input reads as it did. -/
def fnValidShapeSpec : ChangeSpec := { name := "fnValidShape", fn := fun _ => fun
  | [d] => { results := [.lit (.bool true)], args := [d] }
  | _ => none }
def fnValidShapeRow : OpenClaim := { program := "ytdhhdkncglhgfaa", sum := "65bb8a585f72fd5c033b8d7a63f279f65062622d3fa75a1751b8db4e797bf3f3", func := "loop.example/strideviews/laws.FnValidShape", spec := "fnValidShape", apart := false }
def FnValidShapeSaid : Prop := fnValidShapeRow.holds Try.pinned (OpenSpec.ofChange fnValidShapeSpec)

/-- ITS FALSE NEIGHBOUR: 'it returns false'. Refute it at one input. -/
def fnValidShapeWrong : ChangeSpec := { name := "fnValidShape", fn := fun _ => fun
  | [d] => { results := [.lit (.bool false)], args := [d] }
  | _ => none }
def FnValidShapeWrongFalsely : Prop := fnValidShapeRow.holds Try.pinned (OpenSpec.ofChange fnValidShapeWrong)

/-- 'laws.FnCountOf': WHATEVER THE INPUT: true; the input reads as it did. -/
def fnCountOfSpec : ChangeSpec := { name := "fnCountOf", fn := fun _ => fun
  | [d] => { results := [.lit (.bool true)], args := [d] }
  | _ => none }
def fnCountOfRow : OpenClaim := { program := "ytdhhdkncglhgfaa", sum := "65bb8a585f72fd5c033b8d7a63f279f65062622d3fa75a1751b8db4e797bf3f3", func := "loop.example/strideviews/laws.FnCountOf", spec := "fnCountOf", apart := false }
def FnCountOfSaid : Prop := fnCountOfRow.holds Try.pinned (OpenSpec.ofChange fnCountOfSpec)

/-- ITS FALSE NEIGHBOUR: 'it returns false'. Refute it at one input. -/
def fnCountOfWrong : ChangeSpec := { name := "fnCountOf", fn := fun _ => fun
  | [d] => { results := [.lit (.bool false)], args := [d] }
  | _ => none }
def FnCountOfWrongFalsely : Prop := fnCountOfRow.holds Try.pinned (OpenSpec.ofChange fnCountOfWrong)

/-- 'laws.FnPlacesOf': WHATEVER THE INPUT: true; the input reads as it did. -/
def fnPlacesOfSpec : ChangeSpec := { name := "fnPlacesOf", fn := fun _ => fun
  | [d] => { results := [.lit (.bool true)], args := [d] }
  | _ => none }
def fnPlacesOfRow : OpenClaim := { program := "ytdhhdkncglhgfaa", sum := "65bb8a585f72fd5c033b8d7a63f279f65062622d3fa75a1751b8db4e797bf3f3", func := "loop.example/strideviews/laws.FnPlacesOf", spec := "fnPlacesOf", unfollowed := true, recurses := true, apart := false }
def FnPlacesOfSaid : Prop := fnPlacesOfRow.holds Try.pinned (OpenSpec.ofChange fnPlacesOfSpec)

/-- ITS FALSE NEIGHBOUR: 'it returns false'. Refute it at one input. -/
def fnPlacesOfWrong : ChangeSpec := { name := "fnPlacesOf", fn := fun _ => fun
  | [d] => { results := [.lit (.bool false)], args := [d] }
  | _ => none }
def FnPlacesOfWrongFalsely : Prop := fnPlacesOfRow.holds Try.pinned (OpenSpec.ofChange fnPlacesOfWrong)

/-- 'laws.FnChangedBy': WHATEVER THE INPUT: true; the input reads as it did. -/
def fnChangedBySpec : ChangeSpec := { name := "fnChangedBy", fn := fun _ => fun
  | [d] => { results := [.lit (.bool true)], args := [d] }
  | _ => none }
def fnChangedByRow : OpenClaim := { program := "ytdhhdkncglhgfaa", sum := "65bb8a585f72fd5c033b8d7a63f279f65062622d3fa75a1751b8db4e797bf3f3", func := "loop.example/strideviews/laws.FnChangedBy", spec := "fnChangedBy", unfollowed := true, recurses := true, apart := false }
def FnChangedBySaid : Prop := fnChangedByRow.holds Try.pinned (OpenSpec.ofChange fnChangedBySpec)

/-- ITS FALSE NEIGHBOUR: 'it returns false'. Refute it at one input. -/
def fnChangedByWrong : ChangeSpec := { name := "fnChangedBy", fn := fun _ => fun
  | [d] => { results := [.lit (.bool false)], args := [d] }
  | _ => none }
def FnChangedByWrongFalsely : Prop := fnChangedByRow.holds Try.pinned (OpenSpec.ofChange fnChangedByWrong)

/-- 'laws.FnRowStrides': WHATEVER THE INPUT: true; the input reads as it did. -/
def fnRowStridesSpec : ChangeSpec := { name := "fnRowStrides", fn := fun _ => fun
  | [d] => { results := [.lit (.bool true)], args := [d] }
  | _ => none }
def fnRowStridesRow : OpenClaim := { program := "ytdhhdkncglhgfaa", sum := "65bb8a585f72fd5c033b8d7a63f279f65062622d3fa75a1751b8db4e797bf3f3", func := "loop.example/strideviews/laws.FnRowStrides", spec := "fnRowStrides", apart := false }
def FnRowStridesSaid : Prop := fnRowStridesRow.holds Try.pinned (OpenSpec.ofChange fnRowStridesSpec)

/-- ITS FALSE NEIGHBOUR: 'it returns false'. Refute it at one input. -/
def fnRowStridesWrong : ChangeSpec := { name := "fnRowStrides", fn := fun _ => fun
  | [d] => { results := [.lit (.bool false)], args := [d] }
  | _ => none }
def FnRowStridesWrongFalsely : Prop := fnRowStridesRow.holds Try.pinned (OpenSpec.ofChange fnRowStridesWrong)

/-- 'laws.FnValidTensor': WHATEVER THE INPUT: true; the input reads as it did. -/
def fnValidTensorSpec : ChangeSpec := { name := "fnValidTensor", fn := fun _ => fun
  | [d] => { results := [.lit (.bool true)], args := [d] }
  | _ => none }
def fnValidTensorRow : OpenClaim := { program := "ytdhhdkncglhgfaa", sum := "65bb8a585f72fd5c033b8d7a63f279f65062622d3fa75a1751b8db4e797bf3f3", func := "loop.example/strideviews/laws.FnValidTensor", spec := "fnValidTensor", unfollowed := true, recurses := true, apart := false }
def FnValidTensorSaid : Prop := fnValidTensorRow.holds Try.pinned (OpenSpec.ofChange fnValidTensorSpec)

/-- ITS FALSE NEIGHBOUR: 'it returns false'. Refute it at one input. -/
def fnValidTensorWrong : ChangeSpec := { name := "fnValidTensor", fn := fun _ => fun
  | [d] => { results := [.lit (.bool false)], args := [d] }
  | _ => none }
def FnValidTensorWrongFalsely : Prop := fnValidTensorRow.holds Try.pinned (OpenSpec.ofChange fnValidTensorWrong)

/-- 'laws.FnColStrides': WHATEVER THE INPUT: true; the input reads as it did. -/
def fnColStridesSpec : ChangeSpec := { name := "fnColStrides", fn := fun _ => fun
  | [d] => { results := [.lit (.bool true)], args := [d] }
  | _ => none }
def fnColStridesRow : OpenClaim := { program := "ytdhhdkncglhgfaa", sum := "65bb8a585f72fd5c033b8d7a63f279f65062622d3fa75a1751b8db4e797bf3f3", func := "loop.example/strideviews/laws.FnColStrides", spec := "fnColStrides", apart := false }
def FnColStridesSaid : Prop := fnColStridesRow.holds Try.pinned (OpenSpec.ofChange fnColStridesSpec)

/-- ITS FALSE NEIGHBOUR: 'it returns false'. Refute it at one input. -/
def fnColStridesWrong : ChangeSpec := { name := "fnColStrides", fn := fun _ => fun
  | [d] => { results := [.lit (.bool false)], args := [d] }
  | _ => none }
def FnColStridesWrongFalsely : Prop := fnColStridesRow.holds Try.pinned (OpenSpec.ofChange fnColStridesWrong)

/-- 'laws.FnItemSize': WHATEVER THE INPUT: true; the input reads as it did. -/
def fnItemSizeSpec : ChangeSpec := { name := "fnItemSize", fn := fun _ => fun
  | [d] => { results := [.lit (.bool true)], args := [d] }
  | _ => none }
def fnItemSizeRow : OpenClaim := { program := "ytdhhdkncglhgfaa", sum := "65bb8a585f72fd5c033b8d7a63f279f65062622d3fa75a1751b8db4e797bf3f3", func := "loop.example/strideviews/laws.FnItemSize", spec := "fnItemSize", unfollowed := true, recurses := true, apart := false }
def FnItemSizeSaid : Prop := fnItemSizeRow.holds Try.pinned (OpenSpec.ofChange fnItemSizeSpec)

/-- ITS FALSE NEIGHBOUR: 'it returns false'. Refute it at one input. -/
def fnItemSizeWrong : ChangeSpec := { name := "fnItemSize", fn := fun _ => fun
  | [d] => { results := [.lit (.bool false)], args := [d] }
  | _ => none }
def FnItemSizeWrongFalsely : Prop := fnItemSizeRow.holds Try.pinned (OpenSpec.ofChange fnItemSizeWrong)

/-- 'laws.FnIndexAt': WHATEVER THE INPUT: true; the input reads as it did. -/
def fnIndexAtSpec : ChangeSpec := { name := "fnIndexAt", fn := fun _ => fun
  | [d] => { results := [.lit (.bool true)], args := [d] }
  | _ => none }
def fnIndexAtRow : OpenClaim := { program := "ytdhhdkncglhgfaa", sum := "65bb8a585f72fd5c033b8d7a63f279f65062622d3fa75a1751b8db4e797bf3f3", func := "loop.example/strideviews/laws.FnIndexAt", spec := "fnIndexAt", apart := false }
def FnIndexAtSaid : Prop := fnIndexAtRow.holds Try.pinned (OpenSpec.ofChange fnIndexAtSpec)

/-- ITS FALSE NEIGHBOUR: 'it returns false'. Refute it at one input. -/
def fnIndexAtWrong : ChangeSpec := { name := "fnIndexAt", fn := fun _ => fun
  | [d] => { results := [.lit (.bool false)], args := [d] }
  | _ => none }
def FnIndexAtWrongFalsely : Prop := fnIndexAtRow.holds Try.pinned (OpenSpec.ofChange fnIndexAtWrong)

/- THE SECOND FORM. 'bulk': how many values and letters a reading holds, each counted each time it is reached (what is shared counts as often as it is met; a slice's spare places count too). A statement '..UptoSaid' is the law's where the arguments, and the package variables that the reading takes, are together of bulk at most 1048576: NARROWER than '..Said'. Prove '..Said' where nothing that the law and all that it calls make is longer than what came in: it says more and counts as full. Else prove '..UptoSaid'. A law counts once. -/
mutual
def uptoBulk {H : Type} : DataW H → Nat
  | .lit (.string bytes) => bytes.length + 1
  | .lit _ => 1
  | .nil => 1
  | .ptr d => uptoBulk d + 1
  | .slice elems spare => uptoBulkAll elems + uptoBulkAll spare + 1
  | .agg parts => uptoBulkAll parts + 1
  | .iface _ d => uptoBulk d + 1
  | .map entries => uptoBulkEntries entries + 1
  | .held _ => 1
def uptoBulkAll {H : Type} : List (DataW H) → Nat
  | [] => 0
  | d :: r => uptoBulk d + uptoBulkAll r
def uptoBulkEntries {H : Type} : List (Lit × DataW H) → Nat
  | [] => 0
  | x :: r => uptoBulkEntry x + uptoBulkEntries r
def uptoBulkEntry {H : Type} : Lit × DataW H → Nat
  | (.string bytes, d) => bytes.length + uptoBulk d + 1
  | (_, d) => uptoBulk d + 1
 end
def uptoSmall : (H : Type) → List (DataW H) → Bool := fun _ ds => decide (uptoBulkAll ds ≤ 1048576)
def OpenSpec.upto (s : _root_.Go.ChangeSpec) : _root_.Go.OpenSpec := { _root_.Go.OpenSpec.ofChange s with cond := some uptoSmall }

/-- 'laws.FnNewBuffer', WHERE WHAT IT READS IS OF BULK AT MOST 1048576: true; the input reads as it did. -/
def fnNewBufferUptoRow : OpenClaim := { program := "ytdhhdkncglhgfaa", sum := "65bb8a585f72fd5c033b8d7a63f279f65062622d3fa75a1751b8db4e797bf3f3", func := "loop.example/strideviews/laws.FnNewBuffer", spec := "fnNewBuffer", unfollowed := true, recurses := true, apart := false, narrowed := true }
def FnNewBufferUptoSaid : Prop := fnNewBufferUptoRow.holds Try.pinned (OpenSpec.upto fnNewBufferSpec)

/-- 'laws.FnValidMemory', WHERE WHAT IT READS IS OF BULK AT MOST 1048576: true; the input reads as it did. -/
def fnValidMemoryUptoRow : OpenClaim := { program := "ytdhhdkncglhgfaa", sum := "65bb8a585f72fd5c033b8d7a63f279f65062622d3fa75a1751b8db4e797bf3f3", func := "loop.example/strideviews/laws.FnValidMemory", spec := "fnValidMemory", unfollowed := true, recurses := true, apart := false, narrowed := true }
def FnValidMemoryUptoSaid : Prop := fnValidMemoryUptoRow.holds Try.pinned (OpenSpec.upto fnValidMemorySpec)

/-- 'laws.FnValidFormat', WHERE WHAT IT READS IS OF BULK AT MOST 1048576: true; the input reads as it did. -/
def fnValidFormatUptoRow : OpenClaim := { program := "ytdhhdkncglhgfaa", sum := "65bb8a585f72fd5c033b8d7a63f279f65062622d3fa75a1751b8db4e797bf3f3", func := "loop.example/strideviews/laws.FnValidFormat", spec := "fnValidFormat", unfollowed := true, recurses := true, apart := false, narrowed := true }
def FnValidFormatUptoSaid : Prop := fnValidFormatUptoRow.holds Try.pinned (OpenSpec.upto fnValidFormatSpec)

/-- 'laws.FnValidShape', WHERE WHAT IT READS IS OF BULK AT MOST 1048576: true; the input reads as it did. -/
def fnValidShapeUptoRow : OpenClaim := { program := "ytdhhdkncglhgfaa", sum := "65bb8a585f72fd5c033b8d7a63f279f65062622d3fa75a1751b8db4e797bf3f3", func := "loop.example/strideviews/laws.FnValidShape", spec := "fnValidShape", apart := false, narrowed := true }
def FnValidShapeUptoSaid : Prop := fnValidShapeUptoRow.holds Try.pinned (OpenSpec.upto fnValidShapeSpec)

/-- 'laws.FnCountOf', WHERE WHAT IT READS IS OF BULK AT MOST 1048576: true; the input reads as it did. -/
def fnCountOfUptoRow : OpenClaim := { program := "ytdhhdkncglhgfaa", sum := "65bb8a585f72fd5c033b8d7a63f279f65062622d3fa75a1751b8db4e797bf3f3", func := "loop.example/strideviews/laws.FnCountOf", spec := "fnCountOf", apart := false, narrowed := true }
def FnCountOfUptoSaid : Prop := fnCountOfUptoRow.holds Try.pinned (OpenSpec.upto fnCountOfSpec)

/-- 'laws.FnPlacesOf', WHERE WHAT IT READS IS OF BULK AT MOST 1048576: true; the input reads as it did. -/
def fnPlacesOfUptoRow : OpenClaim := { program := "ytdhhdkncglhgfaa", sum := "65bb8a585f72fd5c033b8d7a63f279f65062622d3fa75a1751b8db4e797bf3f3", func := "loop.example/strideviews/laws.FnPlacesOf", spec := "fnPlacesOf", unfollowed := true, recurses := true, apart := false, narrowed := true }
def FnPlacesOfUptoSaid : Prop := fnPlacesOfUptoRow.holds Try.pinned (OpenSpec.upto fnPlacesOfSpec)

/-- 'laws.FnChangedBy', WHERE WHAT IT READS IS OF BULK AT MOST 1048576: true; the input reads as it did. -/
def fnChangedByUptoRow : OpenClaim := { program := "ytdhhdkncglhgfaa", sum := "65bb8a585f72fd5c033b8d7a63f279f65062622d3fa75a1751b8db4e797bf3f3", func := "loop.example/strideviews/laws.FnChangedBy", spec := "fnChangedBy", unfollowed := true, recurses := true, apart := false, narrowed := true }
def FnChangedByUptoSaid : Prop := fnChangedByUptoRow.holds Try.pinned (OpenSpec.upto fnChangedBySpec)

/-- 'laws.FnRowStrides', WHERE WHAT IT READS IS OF BULK AT MOST 1048576: true; the input reads as it did. -/
def fnRowStridesUptoRow : OpenClaim := { program := "ytdhhdkncglhgfaa", sum := "65bb8a585f72fd5c033b8d7a63f279f65062622d3fa75a1751b8db4e797bf3f3", func := "loop.example/strideviews/laws.FnRowStrides", spec := "fnRowStrides", apart := false, narrowed := true }
def FnRowStridesUptoSaid : Prop := fnRowStridesUptoRow.holds Try.pinned (OpenSpec.upto fnRowStridesSpec)

/-- 'laws.FnValidTensor', WHERE WHAT IT READS IS OF BULK AT MOST 1048576: true; the input reads as it did. -/
def fnValidTensorUptoRow : OpenClaim := { program := "ytdhhdkncglhgfaa", sum := "65bb8a585f72fd5c033b8d7a63f279f65062622d3fa75a1751b8db4e797bf3f3", func := "loop.example/strideviews/laws.FnValidTensor", spec := "fnValidTensor", unfollowed := true, recurses := true, apart := false, narrowed := true }
def FnValidTensorUptoSaid : Prop := fnValidTensorUptoRow.holds Try.pinned (OpenSpec.upto fnValidTensorSpec)

/-- 'laws.FnColStrides', WHERE WHAT IT READS IS OF BULK AT MOST 1048576: true; the input reads as it did. -/
def fnColStridesUptoRow : OpenClaim := { program := "ytdhhdkncglhgfaa", sum := "65bb8a585f72fd5c033b8d7a63f279f65062622d3fa75a1751b8db4e797bf3f3", func := "loop.example/strideviews/laws.FnColStrides", spec := "fnColStrides", apart := false, narrowed := true }
def FnColStridesUptoSaid : Prop := fnColStridesUptoRow.holds Try.pinned (OpenSpec.upto fnColStridesSpec)

/-- 'laws.FnItemSize', WHERE WHAT IT READS IS OF BULK AT MOST 1048576: true; the input reads as it did. -/
def fnItemSizeUptoRow : OpenClaim := { program := "ytdhhdkncglhgfaa", sum := "65bb8a585f72fd5c033b8d7a63f279f65062622d3fa75a1751b8db4e797bf3f3", func := "loop.example/strideviews/laws.FnItemSize", spec := "fnItemSize", unfollowed := true, recurses := true, apart := false, narrowed := true }
def FnItemSizeUptoSaid : Prop := fnItemSizeUptoRow.holds Try.pinned (OpenSpec.upto fnItemSizeSpec)

/-- 'laws.FnIndexAt', WHERE WHAT IT READS IS OF BULK AT MOST 1048576: true; the input reads as it did. -/
def fnIndexAtUptoRow : OpenClaim := { program := "ytdhhdkncglhgfaa", sum := "65bb8a585f72fd5c033b8d7a63f279f65062622d3fa75a1751b8db4e797bf3f3", func := "loop.example/strideviews/laws.FnIndexAt", spec := "fnIndexAt", apart := false, narrowed := true }
def FnIndexAtUptoSaid : Prop := fnIndexAtUptoRow.holds Try.pinned (OpenSpec.upto fnIndexAtSpec)

end Rows
end Go.Proofs.Ytdhhdkncglhgfaa
