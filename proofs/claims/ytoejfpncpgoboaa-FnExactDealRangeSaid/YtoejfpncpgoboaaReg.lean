/- Small words for regions that draw their order: a name for the world at hand; what is kept of it. No condition. -/
import Derived.Test.YtoejfpncpgoboaaStep
set_option linter.unusedVariables false
namespace Go.Proofs.Ytoejfpncpgoboaa
open Go.RowKit
theorem nameW {P : Program} {c : Code} {Q : Exit → Act → World → Prop} {a : Act} {w : World} (h : ∀ W, W = w → c.wp P Q a W) : c.wp P Q a w := h w rfl
end Go.Proofs.Ytoejfpncpgoboaa
