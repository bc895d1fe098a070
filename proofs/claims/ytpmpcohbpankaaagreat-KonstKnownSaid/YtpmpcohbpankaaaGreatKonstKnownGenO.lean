/- Printed by genrow.py: what is read at a type. -/
import Derived.Test.YtpmpcohbpankaaaGreatKonstKnownGenK
import Derived.Test.YtpmpcohbpankaaaGreatKonstKnownAbsT
namespace Go.Proofs.YtpmpcohbpankaaaGreat.Gen
open Go Go.Abs Go.Proofs
end Go.Proofs.YtpmpcohbpankaaaGreat.Gen
