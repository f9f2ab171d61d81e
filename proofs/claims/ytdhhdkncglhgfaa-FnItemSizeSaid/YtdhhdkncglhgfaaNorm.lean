/- The walks to the normal form of a range: searches in a list, a list in reverse, the normal form of the numbers of a progression. -/
import Derived.Test.YtdhhdkncglhgfaaFunc
set_option linter.unusedVariables false
namespace Go.Proofs.Ytdhhdkncglhgfaa
open Go.RowKit
attribute [local go_sem] addBlock

def isX (x y : Int) : Bool := decide (y = x)


/-- The normal form of the range with some numbers, which are a progression. -/
def nrmA (xs : List Int) : Int := if xs.length = 0 then 0 else xs.getD 0 0
def nrmB (xs : List Int) : Int := if xs.length = 0 then 0 else if xs.length = 1 then xs.getD 0 0 + 1 else if xs.getD 1 0 - xs.getD 0 0 < 0 then xs.getD (xs.length - 1) 0 - 1 else xs.getD (xs.length - 1) 0 + 1
def nrmC (xs : List Int) : Int := if xs.length < 2 then 1 else xs.getD 1 0 - xs.getD 0 0
/-- Numbers that are small enough for sums. -/
def SmallL (xs : List Int) : Prop := ∀ j, j < xs.length → -1000000000 ≤ xs.getD j 0 ∧ xs.getD j 0 ≤ 1000000000
theorem SmallL.get {xs : List Int} (h : SmallL xs) {j : Nat} {y : Int} (hj : j < xs.length) (hy : Hid (y = xs.getD j 0)) : -1000000000 ≤ y ∧ y ≤ 1000000000 := by rw [hy.out]; exact h j hj

end Go.Proofs.Ytdhhdkncglhgfaa
