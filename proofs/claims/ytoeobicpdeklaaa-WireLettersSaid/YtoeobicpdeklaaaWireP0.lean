/- Walks of layer 2, printed by wip/gen/codec.py. -/
import Derived.Test.YtoeobicpdeklaaaWireT
namespace Go.Proofs.Ytoeobicpdeklaaa
open Go Go.RowKit
set_option linter.unusedVariables false
attribute [local irreducible] Still Ops Does Cd
@[reducible] def thposted : Th := Th.pair (Th.pair (Th.pair (Th.flat [.int, .int, .int, .int, .int, .int, .int, .int]) (Th.many thvote false)) (Th.many thentry false)) (Th.flat [.int, .int, .word, .bytes])
end Go.Proofs.Ytoeobicpdeklaaa
