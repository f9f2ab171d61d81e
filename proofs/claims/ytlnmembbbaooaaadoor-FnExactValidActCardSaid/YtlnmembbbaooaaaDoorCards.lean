/-
  DERIVED. GIVEN WITH THE SEED: THE CARDS: each row of YtlnmembbbaooaaaDoorRows.lean that lists a variable, with what it lists TIED to the program's text (the seventh form; the later family's looks); each row that meets fmt, with fmt's text TOLD by the authors' own Lean function (tested against real Go, not proved from fmt's source: count such statements apart). THE CARD IS WHAT COUNTS. Prove the row's statement (the work); the ties are given (YtlnmembbbaooaaaDoorTie.lean); close each card by the builder's one call (the guide's Derived/Test/ToyasCard.lean, 'card_holds'). Laid BY PROGRAM, IN A SANDBOX (cutbox-door.mjs). By AI agents, Wed Nov 11 2026. No macro, syntax, notation, axiom, sorry.
-/
import Derived.Test.YtlnmembbbaooaaaDoorRows
import GoSem.ClaimSeven
namespace Go.Proofs.YtlnmembbbaooaaaDoor
namespace Rows

/-- THE TIED CARD OF 'laws.FnExactValidAct'. -/
def fnExactValidActCard : Claim7 := { stood := { row := fnExactValidActRow, standIns := [], harness := (true, "5f093cd26937097edc1ad116088dff0b6e124ce4982db6ea2db6f7bf5c549617"), looks := false }, kinds := [], alts := [], laidByText := true, laidKinds := [.data], laidTests := true, laidLooks := .later }
def FnExactValidActCardSaid : Prop := Claim7.holds Tryd.pinned (.plain (OpenSpec.ofChange fnExactValidActSpec)) fnExactValidActCard

/-- THE SECOND FORM's CARD OF 'laws.FnExactValidAct'. -/
def fnExactValidActUptoCard : Claim7 := { stood := { row := fnExactValidActUptoRow, standIns := [], harness := (true, "5f093cd26937097edc1ad116088dff0b6e124ce4982db6ea2db6f7bf5c549617"), looks := false }, kinds := [], alts := [], laidByText := true, laidKinds := [.data], laidTests := true, laidLooks := .later }
def FnExactValidActUptoCardSaid : Prop := Claim7.holds Tryd.pinned (.plain (OpenSpec.upto fnExactValidActSpec)) fnExactValidActUptoCard
end Rows
end Go.Proofs.YtlnmembbbaooaaaDoor
