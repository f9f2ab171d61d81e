/-
  No cell of these rows narrows 'for every input' (looked for: loops, veiled, ifaces, maps, wideKeys, modest, calm, conditions, laid).
  DERIVED. THE GIVEN ROWS OF THIS SEAT. 4 by the template 'for every input the law returns true; each argument reads behind the call as it read before'; 0 by the template 'total and deterministic' (their statements: YtlnmembbbaooaaaTotals.lean).
  GIVEN WITH THE SEED: the statements are not yours to turn. If you find one false, say at which input.
  Laid BY PROGRAM, IN A SANDBOX (cutbox-rows.mjs): the forced cells as the released guide's own fill.sh prints them over the translation a7bf3358fa1a8436… (all of the seat's roots in one cut). By AI agents, Wed Nov 11 2026. No macro, syntax, notation, axiom, sorry.
-/
import Derived.Test.YtlnmembbbaooaaaChecked
import GoSem.Claim
import GoSem.ClaimJoined
import GoSem.ClaimMapViews
import Derived.JoinedTies
import Derived.KernelRfl
namespace Go.Proofs.Ytlnmembbbaooaaa
/- THE CELL 'sum', in the pinned program and in every row, IS THE sha256 OF THE DUMP (.gsa) THAT YtlnmembbbaooaaaProg.lean LOADS. Nothing in Lean hashes anything: it is a label: what it is worth is what the hold of that sum in a sandbox is worth. -/
noncomputable def Try.pinned : Pinned := { name := "ytlnmembbbaooaaa", sum := "a7bf3358fa1a84363aef71d17a4764cb78c64b598e67af61596d32267de24159", checked := Try.checked }
namespace Rows
def none {H : Type} : Left H := { results := [], args := [] }

/-- 'laws.FnExactValidFormat': WHATEVER THE INPUT: true; the input reads as it did. -/
def fnExactValidFormatSpec : ChangeSpec := { name := "fnExactValidFormat", fn := fun _ => fun
  | [d] => { results := [.lit (.bool true)], args := [d] }
  | _ => none }
def fnExactValidFormatRow : OpenClaim := { program := "ytlnmembbbaooaaa", sum := "a7bf3358fa1a84363aef71d17a4764cb78c64b598e67af61596d32267de24159", func := "loop.example/strideviews/laws.FnExactValidFormat", spec := "fnExactValidFormat", unfollowed := true, recurses := true, apart := false }
def FnExactValidFormatSaid : Prop := fnExactValidFormatRow.holds Try.pinned (OpenSpec.ofChange fnExactValidFormatSpec)

/-- ITS FALSE NEIGHBOUR: 'it returns false'. Refute it at one input. -/
def fnExactValidFormatWrong : ChangeSpec := { name := "fnExactValidFormat", fn := fun _ => fun
  | [d] => { results := [.lit (.bool false)], args := [d] }
  | _ => none }
def FnExactValidFormatWrongFalsely : Prop := fnExactValidFormatRow.holds Try.pinned (OpenSpec.ofChange fnExactValidFormatWrong)

/-- 'laws.FnExactChangedBy': WHATEVER THE INPUT: true; the input reads as it did. -/
def fnExactChangedBySpec : ChangeSpec := { name := "fnExactChangedBy", fn := fun _ => fun
  | [d1, d2] => { results := [.lit (.bool true)], args := [d1, d2] }
  | _ => none }
def fnExactChangedByRow : OpenClaim := { program := "ytlnmembbbaooaaa", sum := "a7bf3358fa1a84363aef71d17a4764cb78c64b598e67af61596d32267de24159", func := "loop.example/strideviews/laws.FnExactChangedBy", spec := "fnExactChangedBy", unfollowed := true, recurses := true, apart := false }
def FnExactChangedBySaid : Prop := fnExactChangedByRow.holds Try.pinned (OpenSpec.ofChange fnExactChangedBySpec)

/-- ITS FALSE NEIGHBOUR: 'it returns false'. Refute it at one input. -/
def fnExactChangedByWrong : ChangeSpec := { name := "fnExactChangedBy", fn := fun _ => fun
  | [d1, d2] => { results := [.lit (.bool false)], args := [d1, d2] }
  | _ => none }
def FnExactChangedByWrongFalsely : Prop := fnExactChangedByRow.holds Try.pinned (OpenSpec.ofChange fnExactChangedByWrong)

/-- 'laws.FnExactItemSize': WHATEVER THE INPUT: true; the input reads as it did. -/
def fnExactItemSizeSpec : ChangeSpec := { name := "fnExactItemSize", fn := fun _ => fun
  | [d] => { results := [.lit (.bool true)], args := [d] }
  | _ => none }
def fnExactItemSizeRow : OpenClaim := { program := "ytlnmembbbaooaaa", sum := "a7bf3358fa1a84363aef71d17a4764cb78c64b598e67af61596d32267de24159", func := "loop.example/strideviews/laws.FnExactItemSize", spec := "fnExactItemSize", unfollowed := true, recurses := true, apart := false }
def FnExactItemSizeSaid : Prop := fnExactItemSizeRow.holds Try.pinned (OpenSpec.ofChange fnExactItemSizeSpec)

/-- ITS FALSE NEIGHBOUR: 'it returns false'. Refute it at one input. -/
def fnExactItemSizeWrong : ChangeSpec := { name := "fnExactItemSize", fn := fun _ => fun
  | [d] => { results := [.lit (.bool false)], args := [d] }
  | _ => none }
def FnExactItemSizeWrongFalsely : Prop := fnExactItemSizeRow.holds Try.pinned (OpenSpec.ofChange fnExactItemSizeWrong)

/-- 'laws.FnExactPlacesOf': WHATEVER THE INPUT: true; the input reads as it did. -/
def fnExactPlacesOfSpec : ChangeSpec := { name := "fnExactPlacesOf", fn := fun _ => fun
  | [d] => { results := [.lit (.bool true)], args := [d] }
  | _ => none }
def fnExactPlacesOfRow : OpenClaim := { program := "ytlnmembbbaooaaa", sum := "a7bf3358fa1a84363aef71d17a4764cb78c64b598e67af61596d32267de24159", func := "loop.example/strideviews/laws.FnExactPlacesOf", spec := "fnExactPlacesOf", unfollowed := true, recurses := true, apart := false }
def FnExactPlacesOfSaid : Prop := fnExactPlacesOfRow.holds Try.pinned (OpenSpec.ofChange fnExactPlacesOfSpec)

/-- ITS FALSE NEIGHBOUR: 'it returns false'. Refute it at one input. -/
def fnExactPlacesOfWrong : ChangeSpec := { name := "fnExactPlacesOf", fn := fun _ => fun
  | [d] => { results := [.lit (.bool false)], args := [d] }
  | _ => none }
def FnExactPlacesOfWrongFalsely : Prop := fnExactPlacesOfRow.holds Try.pinned (OpenSpec.ofChange fnExactPlacesOfWrong)

/- THE SECOND FORM. 'bulk': how many values and letters a reading holds, each counted each time it is reached (what is shared counts as often as it is met; a slice's spare places count too). A statement '..UptoSaid' is the law's where the arguments, and the package variables that the reading takes, are together of bulk at most 1048576: NARROWER than '..Said'. Prove '..Said' where nothing that the law and all that it calls make is longer than what came in: it says more and counts as full. Else prove '..UptoSaid'. A law counts once. -/
mutual
def uptoBulk {H : Type} : DataW H → Nat
  | .lit (.string bytes) => bytes.length + 1
  | .lit _ => 1
  | .nil => 1
  | .ptr d => uptoBulk d + 1
  | .slice elems spare => uptoBulkAll elems + uptoBulkAll spare + 1
  | .agg parts => uptoBulkAll parts + 1
  | .iface _ d => uptoBulk d + 1
  | .map entries => uptoBulkEntries entries + 1
  | .held _ => 1
def uptoBulkAll {H : Type} : List (DataW H) → Nat
  | [] => 0
  | d :: r => uptoBulk d + uptoBulkAll r
def uptoBulkEntries {H : Type} : List (Lit × DataW H) → Nat
  | [] => 0
  | x :: r => uptoBulkEntry x + uptoBulkEntries r
def uptoBulkEntry {H : Type} : Lit × DataW H → Nat
  | (.string bytes, d) => bytes.length + uptoBulk d + 1
  | (_, d) => uptoBulk d + 1
 end
def uptoSmall : (H : Type) → List (DataW H) → Bool := fun _ ds => decide (uptoBulkAll ds ≤ 1048576)
def OpenSpec.upto (s : _root_.Go.ChangeSpec) : _root_.Go.OpenSpec := { _root_.Go.OpenSpec.ofChange s with cond := some uptoSmall }

/-- 'laws.FnExactValidFormat', WHERE WHAT IT READS IS OF BULK AT MOST 1048576: true; the input reads as it did. -/
def fnExactValidFormatUptoRow : OpenClaim := { program := "ytlnmembbbaooaaa", sum := "a7bf3358fa1a84363aef71d17a4764cb78c64b598e67af61596d32267de24159", func := "loop.example/strideviews/laws.FnExactValidFormat", spec := "fnExactValidFormat", unfollowed := true, recurses := true, apart := false, narrowed := true }
def FnExactValidFormatUptoSaid : Prop := fnExactValidFormatUptoRow.holds Try.pinned (OpenSpec.upto fnExactValidFormatSpec)

/-- 'laws.FnExactChangedBy', WHERE WHAT IT READS IS OF BULK AT MOST 1048576: true; the input reads as it did. -/
def fnExactChangedByUptoRow : OpenClaim := { program := "ytlnmembbbaooaaa", sum := "a7bf3358fa1a84363aef71d17a4764cb78c64b598e67af61596d32267de24159", func := "loop.example/strideviews/laws.FnExactChangedBy", spec := "fnExactChangedBy", unfollowed := true, recurses := true, apart := false, narrowed := true }
def FnExactChangedByUptoSaid : Prop := fnExactChangedByUptoRow.holds Try.pinned (OpenSpec.upto fnExactChangedBySpec)

/-- 'laws.FnExactItemSize', WHERE WHAT IT READS IS OF BULK AT MOST 1048576: true; the input reads as it did. -/
def fnExactItemSizeUptoRow : OpenClaim := { program := "ytlnmembbbaooaaa", sum := "a7bf3358fa1a84363aef71d17a4764cb78c64b598e67af61596d32267de24159", func := "loop.example/strideviews/laws.FnExactItemSize", spec := "fnExactItemSize", unfollowed := true, recurses := true, apart := false, narrowed := true }
def FnExactItemSizeUptoSaid : Prop := fnExactItemSizeUptoRow.holds Try.pinned (OpenSpec.upto fnExactItemSizeSpec)

/-- 'laws.FnExactPlacesOf', WHERE WHAT IT READS IS OF BULK AT MOST 1048576: true; the input reads as it did. -/
def fnExactPlacesOfUptoRow : OpenClaim := { program := "ytlnmembbbaooaaa", sum := "a7bf3358fa1a84363aef71d17a4764cb78c64b598e67af61596d32267de24159", func := "loop.example/strideviews/laws.FnExactPlacesOf", spec := "fnExactPlacesOf", unfollowed := true, recurses := true, apart := false, narrowed := true }
def FnExactPlacesOfUptoSaid : Prop := fnExactPlacesOfUptoRow.holds Try.pinned (OpenSpec.upto fnExactPlacesOfSpec)

end Rows
end Go.Proofs.Ytlnmembbbaooaaa
