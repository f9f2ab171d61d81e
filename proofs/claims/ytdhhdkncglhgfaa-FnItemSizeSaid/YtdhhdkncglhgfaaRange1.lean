/- The walks over ranges: what is a valid range, the conversion of a range, its numbers. -/
import Derived.Test.YtdhhdkncglhgfaaMath
set_option linter.unusedVariables false
namespace Go.Proofs.Ytdhhdkncglhgfaa
open Go.RowKit

def rangeB (a b c : Int) : Bool := decide (-100 ≤ a ∧ a ≤ 100 ∧ -101 ≤ b ∧ b ≤ 101 ∧ -200 ≤ c ∧ c ≤ 200 ∧ c ≠ 0)
def inB (n l h : Int) : Bool := decide (l ≤ n ∧ n ≤ h)
theorem rangeB_eq (a b c : Int) : rangeB a b c = (inB a (-100) 100 && (inB b (-101) 101 && (inB c (-200) 200 && (c != 0)))) := by
  rw [Bool.eq_iff_iff]; simp [rangeB, inB]; omega

set_option maxHeartbeats 400000 in
theorem inRange_any (n l h : Int) (w : World) : Calls Try.prog 67 #[.int .i64 n, .int .i64 l, .int .i64 h] w fun e w' => e = .returned (.bool (inB n l h)) ∧ w = w' := by
  go_enter Try.func67, Try.ntmps67
  go_wp2
  all_goals (go_ret; exact ⟨ret_bool (by rw [Bool.eq_iff_iff]; simp [inB]; omega), rfl⟩)

end Go.Proofs.Ytdhhdkncglhgfaa
