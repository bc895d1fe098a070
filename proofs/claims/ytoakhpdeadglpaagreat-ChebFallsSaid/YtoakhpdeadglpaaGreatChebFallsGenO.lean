/- Printed by genrow.py: what is read at a type. -/
import Derived.Test.YtoakhpdeadglpaaGreatChebFallsGenK
import Derived.Test.YtoakhpdeadglpaaGreatChebFallsAbsT
set_option linter.unusedVariables false
set_option linter.unusedSimpArgs false
namespace Go.Proofs.YtoakhpdeadglpaaGreat.Gen
open Go Go.Abs Go.Proofs
end Go.Proofs.YtoakhpdeadglpaaGreat.Gen
