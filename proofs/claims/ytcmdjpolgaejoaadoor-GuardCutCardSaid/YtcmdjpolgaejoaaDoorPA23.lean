/- The laws GuardBounds, GuardShifts, GuardCut of the program hold, as their cards say: texts put together by a program, 24 of 35. -/
import Derived.Test.YtcmdjpolgaejoaaDoorPA11
import Derived.Test.YtcmdjpolgaejoaaDoorPA22
namespace Go.Proofs.YtcmdjpolgaejoaaDoor.C
open Go.RowKit Go.Proofs.YtcmdjpolgaejoaaDoorW.PrintWords Go.Proofs.YtcmdjpolgaejoaaDoorW.PrintLast Go.Proofs.YtcmdjpolgaejoaaDoorW.PrintMore
attribute [local go_sem] max2_int min2_int max_two min_two max_three min_three max_four min_four
set_option linter.unusedVariables false
set_option linter.unusedSimpArgs false
def isthmusref18_kind.f (a0 : Int) : Option (Bool) := if a0 ≥ 1 then (some (decide (a0 ≤ 3))) else (some false)
def isthmusref01_Parts.f (a0 : Int) : Option (Int × Int × Int) := some (wrap64 (IntKind.u64.wrap (Int.tdiv (IntKind.u64.wrap (Int.tdiv a0 268435456)) 268435456)), wrap64 (Int.tmod (IntKind.u64.wrap (Int.tdiv a0 268435456)) 268435456), wrap64 (Int.tmod a0 268435456))
def isthmusref18_within.f (a0 : Int) (a1 : Int) : Option (Bool) := if a0 ≥ 0 then (some (decide (a0 < a1))) else (some false)
end Go.Proofs.YtcmdjpolgaejoaaDoor.C
