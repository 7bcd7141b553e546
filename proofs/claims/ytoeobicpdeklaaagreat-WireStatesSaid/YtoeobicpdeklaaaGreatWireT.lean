/- Walks of layer 2, printed by wip/gen/codec.py. -/
import Derived.Test.YtoeobicpdeklaaaGreatSt
namespace Go.Proofs.YtoeobicpdeklaaaGreat
open Go Go.RowKit
set_option linter.unusedVariables false
attribute [local irreducible] Still Ops Does Cd
@[reducible] def thop : Th := Th.flat [.int, .text, .text, .int, .int, .int]
@[reducible] def thplan : Th := Th.flat [.int, .int, .int, .text, .text, .int, .int]
@[reducible] def thcommand : Th := Th.flat [.int, .int, .int, .int, .int, .int, .text, .int, .int, .int, .flag, .int, .text, .text, .int, .int, .int, .int, .int, .int, .text, .text, .int, .int, .bytes]
@[reducible] def thholder : Th := Th.flat [.int, .int, .int, .int]
@[reducible] def thaccount : Th := Th.pair (Th.pair (Th.flat [.text, .int, .int, .int, .int]) (Th.many thholder false)) (Th.flat [.int, .int, .int, .int])
@[reducible] def thmark : Th := Th.flat [.int, .int, .flag, .int, .int, .int, .int]
@[reducible] def thwait : Th := Th.flat [.int, .int, .int, .int, .int, .int, .text, .text, .int, .int, .int]
@[reducible] def thdeal : Th := Th.flat [.int, .int, .text, .text, .int, .int, .int, .int]
@[reducible] def thend : Th := Th.flat [.int, .int]
@[reducible] def thstate : Th := Th.pair (Th.pair (Th.pair (Th.pair (Th.pair (Th.pair (Th.flat [.int, .int, .flag, .text, .text, .int]) (Th.many thaccount false)) (Th.many thmark true)) (Th.many thwait false)) (Th.many thdeal false)) (Th.many thend false)) (Th.flat [.int, .int, .int, .text, .text, .int, .int, .int, .int, .int, .text, .text, .int, .int, .bytes, .int, .int, .int])
@[reducible] def thspan : Th := Th.flat [.int, .int]
@[reducible] def thlock : Th := Th.flat [.int, .int, .int, .int]
end Go.Proofs.YtoeobicpdeklaaaGreat
