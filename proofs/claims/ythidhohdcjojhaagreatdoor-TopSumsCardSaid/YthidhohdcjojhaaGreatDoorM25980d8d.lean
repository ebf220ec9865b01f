/- Texts of this proof, one behind the other. What is proved, and on which conditions, stands ahead of each. -/
import Derived.Test.YthidhohdcjojhaaGreatDoorProg
import Derived.Test.YthidhohdcjojhaaGreatDoorM242357c0

set_option linter.unusedVariables false
set_option linter.unusedSimpArgs false
namespace Go.Gv
open Go.Proofs
end Go.Gv
