/- The walks over memories: what is one; the copy and the comparison of lists. -/
import Derived.Test.YtnfoofoeimaodaaFunc
import Derived.Test.YtnfoofoeimaodaaAllIn
set_option linter.unusedVariables false
namespace Go.Proofs.Ytnfoofoeimaodaa
open Go.RowKit

def valB (x : Int) : Bool := decide (0 ≤ x ∧ x ≤ 255)
def notValB (x : Int) : Bool := !valB x

def memB (xs : List Int) : Bool := decide (xs.length ≤ 60) && allB 0 255 xs
theorem notVal_eq : notValB = outB 0 255 := by
  funext x; simp [notValB, valB, outB, inB]

end Go.Proofs.Ytnfoofoeimaodaa
