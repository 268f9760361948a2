/-
The regions of three lists are right, stable and changed ones by turns, none of them empty. Plain Lean.
-/
import Derived.Test.YtnmphfelebkaiaaK3
import Derived.Test.YtnmphfelebkaiaaGRightA
namespace Go.Proofs.Ytnmphfelebkaiaa.Pr
set_option linter.unusedVariables false
set_option linter.unusedSimpArgs false
end Go.Proofs.Ytnmphfelebkaiaa.Pr
-- shrunk
