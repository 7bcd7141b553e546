/- A frame, brought to the form of a list. Printed by wip/gen/nrm.py. -/
import Derived.Test.YtbninklfoogmdaaGreatMid
import Derived.Test.YtbninklfoogmdaaGreatFun
namespace Go.Proofs.YtbninklfoogmdaaGreat
open Go
theorem nO26 {P : Program} {ds : List Deferred} {o : List Oper} {K : List Value → World → Prop} {Q : Post} {p : List Oper} {w : World} {a0 a1 a2 a3 a4 a5 a6 a7 a8 a9 a10 a11 a12 a13 a14 a15 a16 a17 a18 a19 a20 a21 a22 a23 a24 a25 : Value} (h : Ops P ds o K Q p [a0, a1, a2, a3, a4, a5, a6, a7, a8, a9, a10, a11, a12, a13, a14, a15, a16, a17, a18, a19, a20, a21, a22, a23, a24, a25] w) : Ops P ds o K Q p [a0, a1, a2, a3, a4, a5, a6, a7, a8, a9, a10, a11, a12, a13, a14, a15, a16, a17, a18, a19, a20, a21, a22, a23, a24, a25] w := h
theorem nR26 {P : Program} {ds : List Deferred} {c : List Code} {Q : Post} {w : World} {a0 a1 a2 a3 a4 a5 a6 a7 a8 a9 a10 a11 a12 a13 a14 a15 a16 a17 a18 a19 a20 a21 a22 a23 a24 a25 : Value} (h : Run P ds c Q [a0, a1, a2, a3, a4, a5, a6, a7, a8, a9, a10, a11, a12, a13, a14, a15, a16, a17, a18, a19, a20, a21, a22, a23, a24, a25] w) : Run P ds c Q [a0, a1, a2, a3, a4, a5, a6, a7, a8, a9, a10, a11, a12, a13, a14, a15, a16, a17, a18, a19, a20, a21, a22, a23, a24, a25] w := h
theorem nS26 {P : Program} {ds : List Deferred} {o : List Oper} {w : World} {K : List Value → Prop} {p : List Oper} {a0 a1 a2 a3 a4 a5 a6 a7 a8 a9 a10 a11 a12 a13 a14 a15 a16 a17 a18 a19 a20 a21 a22 a23 a24 a25 : Value} (h : Still P ds o w K p [a0, a1, a2, a3, a4, a5, a6, a7, a8, a9, a10, a11, a12, a13, a14, a15, a16, a17, a18, a19, a20, a21, a22, a23, a24, a25]) : Still P ds o w K p [a0, a1, a2, a3, a4, a5, a6, a7, a8, a9, a10, a11, a12, a13, a14, a15, a16, a17, a18, a19, a20, a21, a22, a23, a24, a25] := h
end Go.Proofs.YtbninklfoogmdaaGreat
