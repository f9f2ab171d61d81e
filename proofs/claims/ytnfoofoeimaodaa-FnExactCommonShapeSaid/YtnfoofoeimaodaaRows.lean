/-
  No cell of these rows narrows 'for every input' (looked for: loops, veiled, ifaces, maps, wideKeys, modest, calm, conditions, laid).
  DERIVED. THE GIVEN ROWS OF THIS SEAT. 12 by the template 'for every input the law returns true; each argument reads behind the call as it read before'; 0 by the template 'total and deterministic' (their statements: YtnfoofoeimaodaaTotals.lean).
  GIVEN WITH THE SEED: the statements are not yours to turn. If you find one false, say at which input.
  Laid BY PROGRAM, IN A SANDBOX (cutbox-rows.mjs): the forced cells as the released guide's own fill.sh prints them over the translation 59675c1a175ad97a… (all of the seat's roots in one cut). By AI agents, Wed Nov 11 2026. No macro, syntax, notation, axiom, sorry.
-/
import Derived.Test.YtnfoofoeimaodaaChecked
import GoSem.Claim
import GoSem.ClaimJoined
import GoSem.ClaimMapViews
import Derived.JoinedTies
import Derived.KernelRfl
namespace Go.Proofs.Ytnfoofoeimaodaa
/- THE CELL 'sum', in the pinned program and in every row, IS THE sha256 OF THE DUMP (.gsa) THAT YtnfoofoeimaodaaProg.lean LOADS. Nothing in Lean hashes anything: it is a label: what it is worth is what the hold of that sum in a sandbox is worth. -/
noncomputable def Try.pinned : Pinned := { name := "ytnfoofoeimaodaa", sum := "59675c1a175ad97a06e1f7e696fcdadac5ff6b6e413c3620f93545afdcfa34cf", checked := Try.checked }
namespace Rows
def none {H : Type} : Left H := { results := [], args := [] }

/-- 'laws.FnExactValidShape': WHATEVER THE INPUT: true; the input reads as it did. -/
def fnExactValidShapeSpec : ChangeSpec := { name := "fnExactValidShape", fn := fun _ => fun
  | [d] => { results := [.lit (.bool true)], args := [d] }
  | _ => none }
def fnExactValidShapeRow : OpenClaim := { program := "ytnfoofoeimaodaa", sum := "59675c1a175ad97a06e1f7e696fcdadac5ff6b6e413c3620f93545afdcfa34cf", func := "loop.example/strideviews/laws.FnExactValidShape", spec := "fnExactValidShape", apart := false }
def FnExactValidShapeSaid : Prop := fnExactValidShapeRow.holds Try.pinned (OpenSpec.ofChange fnExactValidShapeSpec)

/-- ITS FALSE NEIGHBOUR: 'it returns false'. Refute it at one input. -/
def fnExactValidShapeWrong : ChangeSpec := { name := "fnExactValidShape", fn := fun _ => fun
  | [d] => { results := [.lit (.bool false)], args := [d] }
  | _ => none }
def FnExactValidShapeWrongFalsely : Prop := fnExactValidShapeRow.holds Try.pinned (OpenSpec.ofChange fnExactValidShapeWrong)

/-- 'laws.FnExactCountOf': WHATEVER THE INPUT: true; the input reads as it did. -/
def fnExactCountOfSpec : ChangeSpec := { name := "fnExactCountOf", fn := fun _ => fun
  | [d] => { results := [.lit (.bool true)], args := [d] }
  | _ => none }
def fnExactCountOfRow : OpenClaim := { program := "ytnfoofoeimaodaa", sum := "59675c1a175ad97a06e1f7e696fcdadac5ff6b6e413c3620f93545afdcfa34cf", func := "loop.example/strideviews/laws.FnExactCountOf", spec := "fnExactCountOf", apart := false }
def FnExactCountOfSaid : Prop := fnExactCountOfRow.holds Try.pinned (OpenSpec.ofChange fnExactCountOfSpec)

/-- ITS FALSE NEIGHBOUR: 'it returns false'. Refute it at one input. -/
def fnExactCountOfWrong : ChangeSpec := { name := "fnExactCountOf", fn := fun _ => fun
  | [d] => { results := [.lit (.bool false)], args := [d] }
  | _ => none }
def FnExactCountOfWrongFalsely : Prop := fnExactCountOfRow.holds Try.pinned (OpenSpec.ofChange fnExactCountOfWrong)

/-- 'laws.FnExactFitsIn': WHATEVER THE INPUT: true; the input reads as it did. -/
def fnExactFitsInSpec : ChangeSpec := { name := "fnExactFitsIn", fn := fun _ => fun
  | [d1, d2] => { results := [.lit (.bool true)], args := [d1, d2] }
  | _ => none }
def fnExactFitsInRow : OpenClaim := { program := "ytnfoofoeimaodaa", sum := "59675c1a175ad97a06e1f7e696fcdadac5ff6b6e413c3620f93545afdcfa34cf", func := "loop.example/strideviews/laws.FnExactFitsIn", spec := "fnExactFitsIn", unfollowed := true, recurses := true, apart := false }
def FnExactFitsInSaid : Prop := fnExactFitsInRow.holds Try.pinned (OpenSpec.ofChange fnExactFitsInSpec)

/-- ITS FALSE NEIGHBOUR: 'it returns false'. Refute it at one input. -/
def fnExactFitsInWrong : ChangeSpec := { name := "fnExactFitsIn", fn := fun _ => fun
  | [d1, d2] => { results := [.lit (.bool false)], args := [d1, d2] }
  | _ => none }
def FnExactFitsInWrongFalsely : Prop := fnExactFitsInRow.holds Try.pinned (OpenSpec.ofChange fnExactFitsInWrong)

/-- 'laws.FnExactColStrides': WHATEVER THE INPUT: true; the input reads as it did. -/
def fnExactColStridesSpec : ChangeSpec := { name := "fnExactColStrides", fn := fun _ => fun
  | [d] => { results := [.lit (.bool true)], args := [d] }
  | _ => none }
def fnExactColStridesRow : OpenClaim := { program := "ytnfoofoeimaodaa", sum := "59675c1a175ad97a06e1f7e696fcdadac5ff6b6e413c3620f93545afdcfa34cf", func := "loop.example/strideviews/laws.FnExactColStrides", spec := "fnExactColStrides", apart := false }
def FnExactColStridesSaid : Prop := fnExactColStridesRow.holds Try.pinned (OpenSpec.ofChange fnExactColStridesSpec)

/-- ITS FALSE NEIGHBOUR: 'it returns false'. Refute it at one input. -/
def fnExactColStridesWrong : ChangeSpec := { name := "fnExactColStrides", fn := fun _ => fun
  | [d] => { results := [.lit (.bool false)], args := [d] }
  | _ => none }
def FnExactColStridesWrongFalsely : Prop := fnExactColStridesRow.holds Try.pinned (OpenSpec.ofChange fnExactColStridesWrong)

/-- 'laws.FnExactIndexAt': WHATEVER THE INPUT: true; the input reads as it did. -/
def fnExactIndexAtSpec : ChangeSpec := { name := "fnExactIndexAt", fn := fun _ => fun
  | [d1, d2] => { results := [.lit (.bool true)], args := [d1, d2] }
  | _ => none }
def fnExactIndexAtRow : OpenClaim := { program := "ytnfoofoeimaodaa", sum := "59675c1a175ad97a06e1f7e696fcdadac5ff6b6e413c3620f93545afdcfa34cf", func := "loop.example/strideviews/laws.FnExactIndexAt", spec := "fnExactIndexAt", apart := false }
def FnExactIndexAtSaid : Prop := fnExactIndexAtRow.holds Try.pinned (OpenSpec.ofChange fnExactIndexAtSpec)

/-- ITS FALSE NEIGHBOUR: 'it returns false'. Refute it at one input. -/
def fnExactIndexAtWrong : ChangeSpec := { name := "fnExactIndexAt", fn := fun _ => fun
  | [d1, d2] => { results := [.lit (.bool false)], args := [d1, d2] }
  | _ => none }
def FnExactIndexAtWrongFalsely : Prop := fnExactIndexAtRow.holds Try.pinned (OpenSpec.ofChange fnExactIndexAtWrong)

/-- 'laws.FnExactRowStrides': WHATEVER THE INPUT: true; the input reads as it did. -/
def fnExactRowStridesSpec : ChangeSpec := { name := "fnExactRowStrides", fn := fun _ => fun
  | [d] => { results := [.lit (.bool true)], args := [d] }
  | _ => none }
def fnExactRowStridesRow : OpenClaim := { program := "ytnfoofoeimaodaa", sum := "59675c1a175ad97a06e1f7e696fcdadac5ff6b6e413c3620f93545afdcfa34cf", func := "loop.example/strideviews/laws.FnExactRowStrides", spec := "fnExactRowStrides", apart := false }
def FnExactRowStridesSaid : Prop := fnExactRowStridesRow.holds Try.pinned (OpenSpec.ofChange fnExactRowStridesSpec)

/-- ITS FALSE NEIGHBOUR: 'it returns false'. Refute it at one input. -/
def fnExactRowStridesWrong : ChangeSpec := { name := "fnExactRowStrides", fn := fun _ => fun
  | [d] => { results := [.lit (.bool false)], args := [d] }
  | _ => none }
def FnExactRowStridesWrongFalsely : Prop := fnExactRowStridesRow.holds Try.pinned (OpenSpec.ofChange fnExactRowStridesWrong)

/-- 'laws.FnExactRankOf': WHATEVER THE INPUT: true; the input reads as it did. -/
def fnExactRankOfSpec : ChangeSpec := { name := "fnExactRankOf", fn := fun _ => fun
  | [d1, d2] => { results := [.lit (.bool true)], args := [d1, d2] }
  | _ => none }
def fnExactRankOfRow : OpenClaim := { program := "ytnfoofoeimaodaa", sum := "59675c1a175ad97a06e1f7e696fcdadac5ff6b6e413c3620f93545afdcfa34cf", func := "loop.example/strideviews/laws.FnExactRankOf", spec := "fnExactRankOf", apart := false }
def FnExactRankOfSaid : Prop := fnExactRankOfRow.holds Try.pinned (OpenSpec.ofChange fnExactRankOfSpec)

/-- ITS FALSE NEIGHBOUR: 'it returns false'. Refute it at one input. -/
def fnExactRankOfWrong : ChangeSpec := { name := "fnExactRankOf", fn := fun _ => fun
  | [d1, d2] => { results := [.lit (.bool false)], args := [d1, d2] }
  | _ => none }
def FnExactRankOfWrongFalsely : Prop := fnExactRankOfRow.holds Try.pinned (OpenSpec.ofChange fnExactRankOfWrong)

/-- 'laws.FnExactValidTensor': WHATEVER THE INPUT: true; the input reads as it did. -/
def fnExactValidTensorSpec : ChangeSpec := { name := "fnExactValidTensor", fn := fun _ => fun
  | [d] => { results := [.lit (.bool true)], args := [d] }
  | _ => none }
def fnExactValidTensorRow : OpenClaim := { program := "ytnfoofoeimaodaa", sum := "59675c1a175ad97a06e1f7e696fcdadac5ff6b6e413c3620f93545afdcfa34cf", func := "loop.example/strideviews/laws.FnExactValidTensor", spec := "fnExactValidTensor", unfollowed := true, recurses := true, apart := false }
def FnExactValidTensorSaid : Prop := fnExactValidTensorRow.holds Try.pinned (OpenSpec.ofChange fnExactValidTensorSpec)

/-- ITS FALSE NEIGHBOUR: 'it returns false'. Refute it at one input. -/
def fnExactValidTensorWrong : ChangeSpec := { name := "fnExactValidTensor", fn := fun _ => fun
  | [d] => { results := [.lit (.bool false)], args := [d] }
  | _ => none }
def FnExactValidTensorWrongFalsely : Prop := fnExactValidTensorRow.holds Try.pinned (OpenSpec.ofChange fnExactValidTensorWrong)

/-- 'laws.FnExactCommonShape': WHATEVER THE INPUT: true; the input reads as it did. -/
def fnExactCommonShapeSpec : ChangeSpec := { name := "fnExactCommonShape", fn := fun _ => fun
  | [d1, d2] => { results := [.lit (.bool true)], args := [d1, d2] }
  | _ => none }
def fnExactCommonShapeRow : OpenClaim := { program := "ytnfoofoeimaodaa", sum := "59675c1a175ad97a06e1f7e696fcdadac5ff6b6e413c3620f93545afdcfa34cf", func := "loop.example/strideviews/laws.FnExactCommonShape", spec := "fnExactCommonShape", apart := false }
def FnExactCommonShapeSaid : Prop := fnExactCommonShapeRow.holds Try.pinned (OpenSpec.ofChange fnExactCommonShapeSpec)

/-- ITS FALSE NEIGHBOUR: 'it returns false'. Refute it at one input. -/
def fnExactCommonShapeWrong : ChangeSpec := { name := "fnExactCommonShape", fn := fun _ => fun
  | [d1, d2] => { results := [.lit (.bool false)], args := [d1, d2] }
  | _ => none }
def FnExactCommonShapeWrongFalsely : Prop := fnExactCommonShapeRow.holds Try.pinned (OpenSpec.ofChange fnExactCommonShapeWrong)

/-- 'laws.FnExactNewBuffer': WHATEVER THE INPUT: true; the input reads as it did. -/
def fnExactNewBufferSpec : ChangeSpec := { name := "fnExactNewBuffer", fn := fun _ => fun
  | [d] => { results := [.lit (.bool true)], args := [d] }
  | _ => none }
def fnExactNewBufferRow : OpenClaim := { program := "ytnfoofoeimaodaa", sum := "59675c1a175ad97a06e1f7e696fcdadac5ff6b6e413c3620f93545afdcfa34cf", func := "loop.example/strideviews/laws.FnExactNewBuffer", spec := "fnExactNewBuffer", apart := false }
def FnExactNewBufferSaid : Prop := fnExactNewBufferRow.holds Try.pinned (OpenSpec.ofChange fnExactNewBufferSpec)

/-- ITS FALSE NEIGHBOUR: 'it returns false'. Refute it at one input. -/
def fnExactNewBufferWrong : ChangeSpec := { name := "fnExactNewBuffer", fn := fun _ => fun
  | [d] => { results := [.lit (.bool false)], args := [d] }
  | _ => none }
def FnExactNewBufferWrongFalsely : Prop := fnExactNewBufferRow.holds Try.pinned (OpenSpec.ofChange fnExactNewBufferWrong)

/-- 'laws.FnExactNewView': WHATEVER THE INPUT: true; the input reads as it did. -/
def fnExactNewViewSpec : ChangeSpec := { name := "fnExactNewView", fn := fun _ => fun
  | [d] => { results := [.lit (.bool true)], args := [d] }
  | _ => none }
def fnExactNewViewRow : OpenClaim := { program := "ytnfoofoeimaodaa", sum := "59675c1a175ad97a06e1f7e696fcdadac5ff6b6e413c3620f93545afdcfa34cf", func := "loop.example/strideviews/laws.FnExactNewView", spec := "fnExactNewView", apart := false }
def FnExactNewViewSaid : Prop := fnExactNewViewRow.holds Try.pinned (OpenSpec.ofChange fnExactNewViewSpec)

/-- ITS FALSE NEIGHBOUR: 'it returns false'. Refute it at one input. -/
def fnExactNewViewWrong : ChangeSpec := { name := "fnExactNewView", fn := fun _ => fun
  | [d] => { results := [.lit (.bool false)], args := [d] }
  | _ => none }
def FnExactNewViewWrongFalsely : Prop := fnExactNewViewRow.holds Try.pinned (OpenSpec.ofChange fnExactNewViewWrong)

/-- 'laws.FnExactValidView': WHATEVER THE INPUT: true; the input reads as it did. -/
def fnExactValidViewSpec : ChangeSpec := { name := "fnExactValidView", fn := fun _ => fun
  | [d] => { results := [.lit (.bool true)], args := [d] }
  | _ => none }
def fnExactValidViewRow : OpenClaim := { program := "ytnfoofoeimaodaa", sum := "59675c1a175ad97a06e1f7e696fcdadac5ff6b6e413c3620f93545afdcfa34cf", func := "loop.example/strideviews/laws.FnExactValidView", spec := "fnExactValidView", unfollowed := true, recurses := true, apart := false }
def FnExactValidViewSaid : Prop := fnExactValidViewRow.holds Try.pinned (OpenSpec.ofChange fnExactValidViewSpec)

/-- ITS FALSE NEIGHBOUR: 'it returns false'. Refute it at one input. -/
def fnExactValidViewWrong : ChangeSpec := { name := "fnExactValidView", fn := fun _ => fun
  | [d] => { results := [.lit (.bool false)], args := [d] }
  | _ => none }
def FnExactValidViewWrongFalsely : Prop := fnExactValidViewRow.holds Try.pinned (OpenSpec.ofChange fnExactValidViewWrong)

/- THE SECOND FORM. 'bulk': how many values and letters a reading holds, each counted each time it is reached (what is shared counts as often as it is met; a slice's spare places count too). A statement '..UptoSaid' is the law's where the arguments, and the package variables that the reading takes, are together of bulk at most 1048576: NARROWER than '..Said'. Prove '..Said' where nothing that the law and all that it calls make is longer than what came in: it says more and counts as full. Else prove '..UptoSaid'. A law counts once. -/
mutual
def uptoBulk {H : Type} : DataW H → Nat
  | .lit (.string bytes) => bytes.length + 1
  | .lit _ => 1
  | .nil => 1
  | .ptr d => uptoBulk d + 1
  | .slice elems spare => uptoBulkAll elems + uptoBulkAll spare + 1
  | .agg parts => uptoBulkAll parts + 1
  | .iface _ d => uptoBulk d + 1
  | .map entries => uptoBulkEntries entries + 1
  | .held _ => 1
def uptoBulkAll {H : Type} : List (DataW H) → Nat
  | [] => 0
  | d :: r => uptoBulk d + uptoBulkAll r
def uptoBulkEntries {H : Type} : List (Lit × DataW H) → Nat
  | [] => 0
  | x :: r => uptoBulkEntry x + uptoBulkEntries r
def uptoBulkEntry {H : Type} : Lit × DataW H → Nat
  | (.string bytes, d) => bytes.length + uptoBulk d + 1
  | (_, d) => uptoBulk d + 1
 end
def uptoSmall : (H : Type) → List (DataW H) → Bool := fun _ ds => decide (uptoBulkAll ds ≤ 1048576)
def OpenSpec.upto (s : _root_.Go.ChangeSpec) : _root_.Go.OpenSpec := { _root_.Go.OpenSpec.ofChange s with cond := some uptoSmall }

/-- 'laws.FnExactValidShape', WHERE WHAT IT READS IS OF BULK AT MOST 1048576: true; the input reads as it did. -/
def fnExactValidShapeUptoRow : OpenClaim := { program := "ytnfoofoeimaodaa", sum := "59675c1a175ad97a06e1f7e696fcdadac5ff6b6e413c3620f93545afdcfa34cf", func := "loop.example/strideviews/laws.FnExactValidShape", spec := "fnExactValidShape", apart := false, narrowed := true }
def FnExactValidShapeUptoSaid : Prop := fnExactValidShapeUptoRow.holds Try.pinned (OpenSpec.upto fnExactValidShapeSpec)

/-- 'laws.FnExactCountOf', WHERE WHAT IT READS IS OF BULK AT MOST 1048576: true; the input reads as it did. -/
def fnExactCountOfUptoRow : OpenClaim := { program := "ytnfoofoeimaodaa", sum := "59675c1a175ad97a06e1f7e696fcdadac5ff6b6e413c3620f93545afdcfa34cf", func := "loop.example/strideviews/laws.FnExactCountOf", spec := "fnExactCountOf", apart := false, narrowed := true }
def FnExactCountOfUptoSaid : Prop := fnExactCountOfUptoRow.holds Try.pinned (OpenSpec.upto fnExactCountOfSpec)

/-- 'laws.FnExactFitsIn', WHERE WHAT IT READS IS OF BULK AT MOST 1048576: true; the input reads as it did. -/
def fnExactFitsInUptoRow : OpenClaim := { program := "ytnfoofoeimaodaa", sum := "59675c1a175ad97a06e1f7e696fcdadac5ff6b6e413c3620f93545afdcfa34cf", func := "loop.example/strideviews/laws.FnExactFitsIn", spec := "fnExactFitsIn", unfollowed := true, recurses := true, apart := false, narrowed := true }
def FnExactFitsInUptoSaid : Prop := fnExactFitsInUptoRow.holds Try.pinned (OpenSpec.upto fnExactFitsInSpec)

/-- 'laws.FnExactColStrides', WHERE WHAT IT READS IS OF BULK AT MOST 1048576: true; the input reads as it did. -/
def fnExactColStridesUptoRow : OpenClaim := { program := "ytnfoofoeimaodaa", sum := "59675c1a175ad97a06e1f7e696fcdadac5ff6b6e413c3620f93545afdcfa34cf", func := "loop.example/strideviews/laws.FnExactColStrides", spec := "fnExactColStrides", apart := false, narrowed := true }
def FnExactColStridesUptoSaid : Prop := fnExactColStridesUptoRow.holds Try.pinned (OpenSpec.upto fnExactColStridesSpec)

/-- 'laws.FnExactIndexAt', WHERE WHAT IT READS IS OF BULK AT MOST 1048576: true; the input reads as it did. -/
def fnExactIndexAtUptoRow : OpenClaim := { program := "ytnfoofoeimaodaa", sum := "59675c1a175ad97a06e1f7e696fcdadac5ff6b6e413c3620f93545afdcfa34cf", func := "loop.example/strideviews/laws.FnExactIndexAt", spec := "fnExactIndexAt", apart := false, narrowed := true }
def FnExactIndexAtUptoSaid : Prop := fnExactIndexAtUptoRow.holds Try.pinned (OpenSpec.upto fnExactIndexAtSpec)

/-- 'laws.FnExactRowStrides', WHERE WHAT IT READS IS OF BULK AT MOST 1048576: true; the input reads as it did. -/
def fnExactRowStridesUptoRow : OpenClaim := { program := "ytnfoofoeimaodaa", sum := "59675c1a175ad97a06e1f7e696fcdadac5ff6b6e413c3620f93545afdcfa34cf", func := "loop.example/strideviews/laws.FnExactRowStrides", spec := "fnExactRowStrides", apart := false, narrowed := true }
def FnExactRowStridesUptoSaid : Prop := fnExactRowStridesUptoRow.holds Try.pinned (OpenSpec.upto fnExactRowStridesSpec)

/-- 'laws.FnExactRankOf', WHERE WHAT IT READS IS OF BULK AT MOST 1048576: true; the input reads as it did. -/
def fnExactRankOfUptoRow : OpenClaim := { program := "ytnfoofoeimaodaa", sum := "59675c1a175ad97a06e1f7e696fcdadac5ff6b6e413c3620f93545afdcfa34cf", func := "loop.example/strideviews/laws.FnExactRankOf", spec := "fnExactRankOf", apart := false, narrowed := true }
def FnExactRankOfUptoSaid : Prop := fnExactRankOfUptoRow.holds Try.pinned (OpenSpec.upto fnExactRankOfSpec)

/-- 'laws.FnExactValidTensor', WHERE WHAT IT READS IS OF BULK AT MOST 1048576: true; the input reads as it did. -/
def fnExactValidTensorUptoRow : OpenClaim := { program := "ytnfoofoeimaodaa", sum := "59675c1a175ad97a06e1f7e696fcdadac5ff6b6e413c3620f93545afdcfa34cf", func := "loop.example/strideviews/laws.FnExactValidTensor", spec := "fnExactValidTensor", unfollowed := true, recurses := true, apart := false, narrowed := true }
def FnExactValidTensorUptoSaid : Prop := fnExactValidTensorUptoRow.holds Try.pinned (OpenSpec.upto fnExactValidTensorSpec)

/-- 'laws.FnExactCommonShape', WHERE WHAT IT READS IS OF BULK AT MOST 1048576: true; the input reads as it did. -/
def fnExactCommonShapeUptoRow : OpenClaim := { program := "ytnfoofoeimaodaa", sum := "59675c1a175ad97a06e1f7e696fcdadac5ff6b6e413c3620f93545afdcfa34cf", func := "loop.example/strideviews/laws.FnExactCommonShape", spec := "fnExactCommonShape", apart := false, narrowed := true }
def FnExactCommonShapeUptoSaid : Prop := fnExactCommonShapeUptoRow.holds Try.pinned (OpenSpec.upto fnExactCommonShapeSpec)

/-- 'laws.FnExactNewBuffer', WHERE WHAT IT READS IS OF BULK AT MOST 1048576: true; the input reads as it did. -/
def fnExactNewBufferUptoRow : OpenClaim := { program := "ytnfoofoeimaodaa", sum := "59675c1a175ad97a06e1f7e696fcdadac5ff6b6e413c3620f93545afdcfa34cf", func := "loop.example/strideviews/laws.FnExactNewBuffer", spec := "fnExactNewBuffer", apart := false, narrowed := true }
def FnExactNewBufferUptoSaid : Prop := fnExactNewBufferUptoRow.holds Try.pinned (OpenSpec.upto fnExactNewBufferSpec)

/-- 'laws.FnExactNewView', WHERE WHAT IT READS IS OF BULK AT MOST 1048576: true; the input reads as it did. -/
def fnExactNewViewUptoRow : OpenClaim := { program := "ytnfoofoeimaodaa", sum := "59675c1a175ad97a06e1f7e696fcdadac5ff6b6e413c3620f93545afdcfa34cf", func := "loop.example/strideviews/laws.FnExactNewView", spec := "fnExactNewView", apart := false, narrowed := true }
def FnExactNewViewUptoSaid : Prop := fnExactNewViewUptoRow.holds Try.pinned (OpenSpec.upto fnExactNewViewSpec)

/-- 'laws.FnExactValidView', WHERE WHAT IT READS IS OF BULK AT MOST 1048576: true; the input reads as it did. -/
def fnExactValidViewUptoRow : OpenClaim := { program := "ytnfoofoeimaodaa", sum := "59675c1a175ad97a06e1f7e696fcdadac5ff6b6e413c3620f93545afdcfa34cf", func := "loop.example/strideviews/laws.FnExactValidView", spec := "fnExactValidView", unfollowed := true, recurses := true, apart := false, narrowed := true }
def FnExactValidViewUptoSaid : Prop := fnExactValidViewUptoRow.holds Try.pinned (OpenSpec.upto fnExactValidViewSpec)

end Rows
end Go.Proofs.Ytnfoofoeimaodaa
