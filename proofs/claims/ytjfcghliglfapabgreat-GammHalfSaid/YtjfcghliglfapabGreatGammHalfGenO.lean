/- Printed by genrow.py: what is read at a type. -/
import Derived.Test.YtjfcghliglfapabGreatGammHalfGenK
import Derived.Test.YtjfcghliglfapabGreatGammHalfAbsT
set_option linter.unusedVariables false
set_option linter.unusedSimpArgs false
namespace Go.Proofs.YtjfcghliglfapabGreat.Gen
open Go Go.Abs Go.Proofs
end Go.Proofs.YtjfcghliglfapabGreat.Gen
