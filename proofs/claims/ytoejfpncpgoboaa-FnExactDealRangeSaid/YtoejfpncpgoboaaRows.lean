/-
  No cell of these rows narrows 'for every input' (looked for: loops, veiled, ifaces, maps, wideKeys, modest, calm, conditions, laid).
  DERIVED. THE GIVEN ROWS OF THIS SEAT. 10 by the template 'for every input the law returns true; each argument reads behind the call as it read before'; 0 by the template 'total and deterministic' (their statements: YtoejfpncpgoboaaTotals.lean).
  GIVEN WITH THE SEED: the statements are not yours to turn. If you find one false, say at which input.
  Laid BY PROGRAM, IN A SANDBOX (cutbox-rows.mjs): the forced cells as the released guide's own fill.sh prints them over the translation 5592f4688d0d5335… (all of the seat's roots in one cut). By AI agents, Wed Nov 11 2026. No macro, syntax, notation, axiom, sorry.
-/
import Derived.Test.YtoejfpncpgoboaaChecked
import GoSem.Claim
import GoSem.ClaimJoined
import GoSem.ClaimMapViews
import Derived.JoinedTies
import Derived.KernelRfl
namespace Go.Proofs.Ytoejfpncpgoboaa
/- THE CELL 'sum', in the pinned program and in every row, IS THE sha256 OF THE DUMP (.gsa) THAT YtoejfpncpgoboaaProg.lean LOADS. Nothing in Lean hashes anything: it is a label: what it is worth is what the hold of that sum in a sandbox is worth. -/
noncomputable def Try.pinned : Pinned := { name := "ytoejfpncpgoboaa", sum := "5592f4688d0d5335d571a9d4758123cc646d59464b26bbab516fb233878a8233", checked := Try.checked }
namespace Rows
def none {H : Type} : Left H := { results := [], args := [] }

/-- 'laws.FnExactNumberAt': WHATEVER THE INPUT: true; the input reads as it did. -/
def fnExactNumberAtSpec : ChangeSpec := { name := "fnExactNumberAt", fn := fun _ => fun
  | [d1, d2] => { results := [.lit (.bool true)], args := [d1, d2] }
  | _ => none }
def fnExactNumberAtRow : OpenClaim := { program := "ytoejfpncpgoboaa", sum := "5592f4688d0d5335d571a9d4758123cc646d59464b26bbab516fb233878a8233", func := "loop.example/strideviews/laws.FnExactNumberAt", spec := "fnExactNumberAt", apart := false }
def FnExactNumberAtSaid : Prop := fnExactNumberAtRow.holds Try.pinned (OpenSpec.ofChange fnExactNumberAtSpec)

/-- ITS FALSE NEIGHBOUR: 'it returns false'. Refute it at one input. -/
def fnExactNumberAtWrong : ChangeSpec := { name := "fnExactNumberAt", fn := fun _ => fun
  | [d1, d2] => { results := [.lit (.bool false)], args := [d1, d2] }
  | _ => none }
def FnExactNumberAtWrongFalsely : Prop := fnExactNumberAtRow.holds Try.pinned (OpenSpec.ofChange fnExactNumberAtWrong)

/-- 'laws.FnExactPlaceOf': WHATEVER THE INPUT: true; the input reads as it did. -/
def fnExactPlaceOfSpec : ChangeSpec := { name := "fnExactPlaceOf", fn := fun _ => fun
  | [d1, d2] => { results := [.lit (.bool true)], args := [d1, d2] }
  | _ => none }
def fnExactPlaceOfRow : OpenClaim := { program := "ytoejfpncpgoboaa", sum := "5592f4688d0d5335d571a9d4758123cc646d59464b26bbab516fb233878a8233", func := "loop.example/strideviews/laws.FnExactPlaceOf", spec := "fnExactPlaceOf", apart := false }
def FnExactPlaceOfSaid : Prop := fnExactPlaceOfRow.holds Try.pinned (OpenSpec.ofChange fnExactPlaceOfSpec)

/-- ITS FALSE NEIGHBOUR: 'it returns false'. Refute it at one input. -/
def fnExactPlaceOfWrong : ChangeSpec := { name := "fnExactPlaceOf", fn := fun _ => fun
  | [d1, d2] => { results := [.lit (.bool false)], args := [d1, d2] }
  | _ => none }
def FnExactPlaceOfWrongFalsely : Prop := fnExactPlaceOfRow.holds Try.pinned (OpenSpec.ofChange fnExactPlaceOfWrong)

/-- 'laws.FnExactNumbersOf': WHATEVER THE INPUT: true; the input reads as it did. -/
def fnExactNumbersOfSpec : ChangeSpec := { name := "fnExactNumbersOf", fn := fun _ => fun
  | [d] => { results := [.lit (.bool true)], args := [d] }
  | _ => none }
def fnExactNumbersOfRow : OpenClaim := { program := "ytoejfpncpgoboaa", sum := "5592f4688d0d5335d571a9d4758123cc646d59464b26bbab516fb233878a8233", func := "loop.example/strideviews/laws.FnExactNumbersOf", spec := "fnExactNumbersOf", apart := false }
def FnExactNumbersOfSaid : Prop := fnExactNumbersOfRow.holds Try.pinned (OpenSpec.ofChange fnExactNumbersOfSpec)

/-- ITS FALSE NEIGHBOUR: 'it returns false'. Refute it at one input. -/
def fnExactNumbersOfWrong : ChangeSpec := { name := "fnExactNumbersOf", fn := fun _ => fun
  | [d] => { results := [.lit (.bool false)], args := [d] }
  | _ => none }
def FnExactNumbersOfWrongFalsely : Prop := fnExactNumbersOfRow.holds Try.pinned (OpenSpec.ofChange fnExactNumbersOfWrong)

/-- 'laws.FnExactCoversRange': WHATEVER THE INPUT: true; the input reads as it did. -/
def fnExactCoversRangeSpec : ChangeSpec := { name := "fnExactCoversRange", fn := fun _ => fun
  | [d1, d2] => { results := [.lit (.bool true)], args := [d1, d2] }
  | _ => none }
def fnExactCoversRangeRow : OpenClaim := { program := "ytoejfpncpgoboaa", sum := "5592f4688d0d5335d571a9d4758123cc646d59464b26bbab516fb233878a8233", func := "loop.example/strideviews/laws.FnExactCoversRange", spec := "fnExactCoversRange", unfollowed := true, recurses := true, apart := false }
def FnExactCoversRangeSaid : Prop := fnExactCoversRangeRow.holds Try.pinned (OpenSpec.ofChange fnExactCoversRangeSpec)

/-- ITS FALSE NEIGHBOUR: 'it returns false'. Refute it at one input. -/
def fnExactCoversRangeWrong : ChangeSpec := { name := "fnExactCoversRange", fn := fun _ => fun
  | [d1, d2] => { results := [.lit (.bool false)], args := [d1, d2] }
  | _ => none }
def FnExactCoversRangeWrongFalsely : Prop := fnExactCoversRangeRow.holds Try.pinned (OpenSpec.ofChange fnExactCoversRangeWrong)

/-- 'laws.FnExactNormalRange': WHATEVER THE INPUT: true; the input reads as it did. -/
def fnExactNormalRangeSpec : ChangeSpec := { name := "fnExactNormalRange", fn := fun _ => fun
  | [d] => { results := [.lit (.bool true)], args := [d] }
  | _ => none }
def fnExactNormalRangeRow : OpenClaim := { program := "ytoejfpncpgoboaa", sum := "5592f4688d0d5335d571a9d4758123cc646d59464b26bbab516fb233878a8233", func := "loop.example/strideviews/laws.FnExactNormalRange", spec := "fnExactNormalRange", apart := false }
def FnExactNormalRangeSaid : Prop := fnExactNormalRangeRow.holds Try.pinned (OpenSpec.ofChange fnExactNormalRangeSpec)

/-- ITS FALSE NEIGHBOUR: 'it returns false'. Refute it at one input. -/
def fnExactNormalRangeWrong : ChangeSpec := { name := "fnExactNormalRange", fn := fun _ => fun
  | [d] => { results := [.lit (.bool false)], args := [d] }
  | _ => none }
def FnExactNormalRangeWrongFalsely : Prop := fnExactNormalRangeRow.holds Try.pinned (OpenSpec.ofChange fnExactNormalRangeWrong)

/-- 'laws.FnExactReverseRange': WHATEVER THE INPUT: true; the input reads as it did. -/
def fnExactReverseRangeSpec : ChangeSpec := { name := "fnExactReverseRange", fn := fun _ => fun
  | [d] => { results := [.lit (.bool true)], args := [d] }
  | _ => none }
def fnExactReverseRangeRow : OpenClaim := { program := "ytoejfpncpgoboaa", sum := "5592f4688d0d5335d571a9d4758123cc646d59464b26bbab516fb233878a8233", func := "loop.example/strideviews/laws.FnExactReverseRange", spec := "fnExactReverseRange", apart := false }
def FnExactReverseRangeSaid : Prop := fnExactReverseRangeRow.holds Try.pinned (OpenSpec.ofChange fnExactReverseRangeSpec)

/-- ITS FALSE NEIGHBOUR: 'it returns false'. Refute it at one input. -/
def fnExactReverseRangeWrong : ChangeSpec := { name := "fnExactReverseRange", fn := fun _ => fun
  | [d] => { results := [.lit (.bool false)], args := [d] }
  | _ => none }
def FnExactReverseRangeWrongFalsely : Prop := fnExactReverseRangeRow.holds Try.pinned (OpenSpec.ofChange fnExactReverseRangeWrong)

/-- 'laws.FnExactIndicesOf': WHATEVER THE INPUT: true; the input reads as it did. -/
def fnExactIndicesOfSpec : ChangeSpec := { name := "fnExactIndicesOf", fn := fun _ => fun
  | [d1, d2] => { results := [.lit (.bool true)], args := [d1, d2] }
  | _ => none }
def fnExactIndicesOfRow : OpenClaim := { program := "ytoejfpncpgoboaa", sum := "5592f4688d0d5335d571a9d4758123cc646d59464b26bbab516fb233878a8233", func := "loop.example/strideviews/laws.FnExactIndicesOf", spec := "fnExactIndicesOf", apart := false }
def FnExactIndicesOfSaid : Prop := fnExactIndicesOfRow.holds Try.pinned (OpenSpec.ofChange fnExactIndicesOfSpec)

/-- ITS FALSE NEIGHBOUR: 'it returns false'. Refute it at one input. -/
def fnExactIndicesOfWrong : ChangeSpec := { name := "fnExactIndicesOf", fn := fun _ => fun
  | [d1, d2] => { results := [.lit (.bool false)], args := [d1, d2] }
  | _ => none }
def FnExactIndicesOfWrongFalsely : Prop := fnExactIndicesOfRow.holds Try.pinned (OpenSpec.ofChange fnExactIndicesOfWrong)

/-- 'laws.FnExactDealRange': WHATEVER THE INPUT: true; the input reads as it did. -/
def fnExactDealRangeSpec : ChangeSpec := { name := "fnExactDealRange", fn := fun _ => fun
  | [d1, d2] => { results := [.lit (.bool true)], args := [d1, d2] }
  | _ => none }
def fnExactDealRangeRow : OpenClaim := { program := "ytoejfpncpgoboaa", sum := "5592f4688d0d5335d571a9d4758123cc646d59464b26bbab516fb233878a8233", func := "loop.example/strideviews/laws.FnExactDealRange", spec := "fnExactDealRange", apart := false }
def FnExactDealRangeSaid : Prop := fnExactDealRangeRow.holds Try.pinned (OpenSpec.ofChange fnExactDealRangeSpec)

/-- ITS FALSE NEIGHBOUR: 'it returns false'. Refute it at one input. -/
def fnExactDealRangeWrong : ChangeSpec := { name := "fnExactDealRange", fn := fun _ => fun
  | [d1, d2] => { results := [.lit (.bool false)], args := [d1, d2] }
  | _ => none }
def FnExactDealRangeWrongFalsely : Prop := fnExactDealRangeRow.holds Try.pinned (OpenSpec.ofChange fnExactDealRangeWrong)

/-- 'laws.FnExactSliceRange': WHATEVER THE INPUT: true; the input reads as it did. -/
def fnExactSliceRangeSpec : ChangeSpec := { name := "fnExactSliceRange", fn := fun _ => fun
  | [d1, d2] => { results := [.lit (.bool true)], args := [d1, d2] }
  | _ => none }
def fnExactSliceRangeRow : OpenClaim := { program := "ytoejfpncpgoboaa", sum := "5592f4688d0d5335d571a9d4758123cc646d59464b26bbab516fb233878a8233", func := "loop.example/strideviews/laws.FnExactSliceRange", spec := "fnExactSliceRange", apart := false }
def FnExactSliceRangeSaid : Prop := fnExactSliceRangeRow.holds Try.pinned (OpenSpec.ofChange fnExactSliceRangeSpec)

/-- ITS FALSE NEIGHBOUR: 'it returns false'. Refute it at one input. -/
def fnExactSliceRangeWrong : ChangeSpec := { name := "fnExactSliceRange", fn := fun _ => fun
  | [d1, d2] => { results := [.lit (.bool false)], args := [d1, d2] }
  | _ => none }
def FnExactSliceRangeWrongFalsely : Prop := fnExactSliceRangeRow.holds Try.pinned (OpenSpec.ofChange fnExactSliceRangeWrong)

/-- 'laws.FnExactMergeSlices': WHATEVER THE INPUT: true; the input reads as it did. -/
def fnExactMergeSlicesSpec : ChangeSpec := { name := "fnExactMergeSlices", fn := fun _ => fun
  | [d1, d2, d3] => { results := [.lit (.bool true)], args := [d1, d2, d3] }
  | _ => none }
def fnExactMergeSlicesRow : OpenClaim := { program := "ytoejfpncpgoboaa", sum := "5592f4688d0d5335d571a9d4758123cc646d59464b26bbab516fb233878a8233", func := "loop.example/strideviews/laws.FnExactMergeSlices", spec := "fnExactMergeSlices", apart := false }
def FnExactMergeSlicesSaid : Prop := fnExactMergeSlicesRow.holds Try.pinned (OpenSpec.ofChange fnExactMergeSlicesSpec)

/-- ITS FALSE NEIGHBOUR: 'it returns false'. Refute it at one input. -/
def fnExactMergeSlicesWrong : ChangeSpec := { name := "fnExactMergeSlices", fn := fun _ => fun
  | [d1, d2, d3] => { results := [.lit (.bool false)], args := [d1, d2, d3] }
  | _ => none }
def FnExactMergeSlicesWrongFalsely : Prop := fnExactMergeSlicesRow.holds Try.pinned (OpenSpec.ofChange fnExactMergeSlicesWrong)

/- THE SECOND FORM. 'bulk': how many values and letters a reading holds, each counted each time it is reached (what is shared counts as often as it is met; a slice's spare places count too). A statement '..UptoSaid' is the law's where the arguments, and the package variables that the reading takes, are together of bulk at most 1048576: NARROWER than '..Said'. Prove '..Said' where nothing that the law and all that it calls make is longer than what came in: it says more and counts as full. Else prove '..UptoSaid'. A law counts once. -/
mutual
def uptoBulk {H : Type} : DataW H → Nat
  | .lit (.string bytes) => bytes.length + 1
  | .lit _ => 1
  | .nil => 1
  | .ptr d => uptoBulk d + 1
  | .slice elems spare => uptoBulkAll elems + uptoBulkAll spare + 1
  | .agg parts => uptoBulkAll parts + 1
  | .iface _ d => uptoBulk d + 1
  | .map entries => uptoBulkEntries entries + 1
  | .held _ => 1
def uptoBulkAll {H : Type} : List (DataW H) → Nat
  | [] => 0
  | d :: r => uptoBulk d + uptoBulkAll r
def uptoBulkEntries {H : Type} : List (Lit × DataW H) → Nat
  | [] => 0
  | x :: r => uptoBulkEntry x + uptoBulkEntries r
def uptoBulkEntry {H : Type} : Lit × DataW H → Nat
  | (.string bytes, d) => bytes.length + uptoBulk d + 1
  | (_, d) => uptoBulk d + 1
 end
def uptoSmall : (H : Type) → List (DataW H) → Bool := fun _ ds => decide (uptoBulkAll ds ≤ 1048576)
def OpenSpec.upto (s : _root_.Go.ChangeSpec) : _root_.Go.OpenSpec := { _root_.Go.OpenSpec.ofChange s with cond := some uptoSmall }

/-- 'laws.FnExactNumberAt', WHERE WHAT IT READS IS OF BULK AT MOST 1048576: true; the input reads as it did. -/
def fnExactNumberAtUptoRow : OpenClaim := { program := "ytoejfpncpgoboaa", sum := "5592f4688d0d5335d571a9d4758123cc646d59464b26bbab516fb233878a8233", func := "loop.example/strideviews/laws.FnExactNumberAt", spec := "fnExactNumberAt", apart := false, narrowed := true }
def FnExactNumberAtUptoSaid : Prop := fnExactNumberAtUptoRow.holds Try.pinned (OpenSpec.upto fnExactNumberAtSpec)

/-- 'laws.FnExactPlaceOf', WHERE WHAT IT READS IS OF BULK AT MOST 1048576: true; the input reads as it did. -/
def fnExactPlaceOfUptoRow : OpenClaim := { program := "ytoejfpncpgoboaa", sum := "5592f4688d0d5335d571a9d4758123cc646d59464b26bbab516fb233878a8233", func := "loop.example/strideviews/laws.FnExactPlaceOf", spec := "fnExactPlaceOf", apart := false, narrowed := true }
def FnExactPlaceOfUptoSaid : Prop := fnExactPlaceOfUptoRow.holds Try.pinned (OpenSpec.upto fnExactPlaceOfSpec)

/-- 'laws.FnExactNumbersOf', WHERE WHAT IT READS IS OF BULK AT MOST 1048576: true; the input reads as it did. -/
def fnExactNumbersOfUptoRow : OpenClaim := { program := "ytoejfpncpgoboaa", sum := "5592f4688d0d5335d571a9d4758123cc646d59464b26bbab516fb233878a8233", func := "loop.example/strideviews/laws.FnExactNumbersOf", spec := "fnExactNumbersOf", apart := false, narrowed := true }
def FnExactNumbersOfUptoSaid : Prop := fnExactNumbersOfUptoRow.holds Try.pinned (OpenSpec.upto fnExactNumbersOfSpec)

/-- 'laws.FnExactCoversRange', WHERE WHAT IT READS IS OF BULK AT MOST 1048576: true; the input reads as it did. -/
def fnExactCoversRangeUptoRow : OpenClaim := { program := "ytoejfpncpgoboaa", sum := "5592f4688d0d5335d571a9d4758123cc646d59464b26bbab516fb233878a8233", func := "loop.example/strideviews/laws.FnExactCoversRange", spec := "fnExactCoversRange", unfollowed := true, recurses := true, apart := false, narrowed := true }
def FnExactCoversRangeUptoSaid : Prop := fnExactCoversRangeUptoRow.holds Try.pinned (OpenSpec.upto fnExactCoversRangeSpec)

/-- 'laws.FnExactNormalRange', WHERE WHAT IT READS IS OF BULK AT MOST 1048576: true; the input reads as it did. -/
def fnExactNormalRangeUptoRow : OpenClaim := { program := "ytoejfpncpgoboaa", sum := "5592f4688d0d5335d571a9d4758123cc646d59464b26bbab516fb233878a8233", func := "loop.example/strideviews/laws.FnExactNormalRange", spec := "fnExactNormalRange", apart := false, narrowed := true }
def FnExactNormalRangeUptoSaid : Prop := fnExactNormalRangeUptoRow.holds Try.pinned (OpenSpec.upto fnExactNormalRangeSpec)

/-- 'laws.FnExactReverseRange', WHERE WHAT IT READS IS OF BULK AT MOST 1048576: true; the input reads as it did. -/
def fnExactReverseRangeUptoRow : OpenClaim := { program := "ytoejfpncpgoboaa", sum := "5592f4688d0d5335d571a9d4758123cc646d59464b26bbab516fb233878a8233", func := "loop.example/strideviews/laws.FnExactReverseRange", spec := "fnExactReverseRange", apart := false, narrowed := true }
def FnExactReverseRangeUptoSaid : Prop := fnExactReverseRangeUptoRow.holds Try.pinned (OpenSpec.upto fnExactReverseRangeSpec)

/-- 'laws.FnExactIndicesOf', WHERE WHAT IT READS IS OF BULK AT MOST 1048576: true; the input reads as it did. -/
def fnExactIndicesOfUptoRow : OpenClaim := { program := "ytoejfpncpgoboaa", sum := "5592f4688d0d5335d571a9d4758123cc646d59464b26bbab516fb233878a8233", func := "loop.example/strideviews/laws.FnExactIndicesOf", spec := "fnExactIndicesOf", apart := false, narrowed := true }
def FnExactIndicesOfUptoSaid : Prop := fnExactIndicesOfUptoRow.holds Try.pinned (OpenSpec.upto fnExactIndicesOfSpec)

/-- 'laws.FnExactDealRange', WHERE WHAT IT READS IS OF BULK AT MOST 1048576: true; the input reads as it did. -/
def fnExactDealRangeUptoRow : OpenClaim := { program := "ytoejfpncpgoboaa", sum := "5592f4688d0d5335d571a9d4758123cc646d59464b26bbab516fb233878a8233", func := "loop.example/strideviews/laws.FnExactDealRange", spec := "fnExactDealRange", apart := false, narrowed := true }
def FnExactDealRangeUptoSaid : Prop := fnExactDealRangeUptoRow.holds Try.pinned (OpenSpec.upto fnExactDealRangeSpec)

/-- 'laws.FnExactSliceRange', WHERE WHAT IT READS IS OF BULK AT MOST 1048576: true; the input reads as it did. -/
def fnExactSliceRangeUptoRow : OpenClaim := { program := "ytoejfpncpgoboaa", sum := "5592f4688d0d5335d571a9d4758123cc646d59464b26bbab516fb233878a8233", func := "loop.example/strideviews/laws.FnExactSliceRange", spec := "fnExactSliceRange", apart := false, narrowed := true }
def FnExactSliceRangeUptoSaid : Prop := fnExactSliceRangeUptoRow.holds Try.pinned (OpenSpec.upto fnExactSliceRangeSpec)

/-- 'laws.FnExactMergeSlices', WHERE WHAT IT READS IS OF BULK AT MOST 1048576: true; the input reads as it did. -/
def fnExactMergeSlicesUptoRow : OpenClaim := { program := "ytoejfpncpgoboaa", sum := "5592f4688d0d5335d571a9d4758123cc646d59464b26bbab516fb233878a8233", func := "loop.example/strideviews/laws.FnExactMergeSlices", spec := "fnExactMergeSlices", apart := false, narrowed := true }
def FnExactMergeSlicesUptoSaid : Prop := fnExactMergeSlicesUptoRow.holds Try.pinned (OpenSpec.upto fnExactMergeSlicesSpec)

end Rows
end Go.Proofs.Ytoejfpncpgoboaa
