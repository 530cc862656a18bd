-- PRINTED BY print.sh 35421559b90ae4d0a3588c463048766b98c2df88dd9212a6774a882060cdf62d: not written by this session
import Derived.Test.YtlhbfkcdagdoaaaProg
import Derived.Below
import Derived.Deep.Draws
import Derived.Deep.AppendLies
import Derived.Maps.AppendAt
import Derived.OwnWalk
import Derived.Laws.BytesArg
import Derived.Laws.MakeOwn
import Derived.Laws.OwnMore
import Derived.Deep.OwnRows
import Derived.Tactics
import Derived.Lib.ConvBytes
import Derived.Laws.Slices
import Derived.WalkKit
import Derived.KernelRfl
import Derived.RowKit3
import Derived.Deep.LoopGhost
import Derived.Deep.QuietTactic
import Derived.BigQuiet
import Derived.WideLaws
import Derived.Deep.DeepCutAuto
import Derived.Deep.CutBlock
import Derived.Deep.RegionHeld3
import Derived.Laws.Rows
import Derived.Lib.AppendStr
import Derived.ArgAppend
import Derived.Laws.IdiomCopy
import Derived.OrdersHeld
import Derived.Laws.BitsLemmas
import Derived.RowKit
import Derived.Test.YtlhbfkcdagdoaaaWWords
import Derived.Test.YtlhbfkcdagdoaaaWLast
import Derived.Test.YtlhbfkcdagdoaaaWTab
import Derived.Test.YtlhbfkcdagdoaaaWFour
import Derived.Test.YtlhbfkcdagdoaaaWQPut
import Derived.Test.YtlhbfkcdagdoaaaWApart
import Derived.Test.YtlhbfkcdagdoaaaWArr
import Derived.Test.YtlhbfkcdagdoaaaWZeros
import Derived.Test.YtlhbfkcdagdoaaaWFoot
import Derived.Test.YtlhbfkcdagdoaaaWKept
import Derived.Test.YtlhbfkcdagdoaaaWShare
import Derived.Test.YtlhbfkcdagdoaaaWN
import Derived.Test.YtlhbfkcdagdoaaaWFootNe
import Derived.Test.YtlhbfkcdagdoaaaWAt
import Derived.Test.YtlhbfkcdagdoaaaWEqStruct
import Derived.Test.YtlhbfkcdagdoaaaWRepsOne
import Derived.Test.YtlhbfkcdagdoaaaWInv
import Derived.Test.YtlhbfkcdagdoaaaWInvWords
import Derived.Test.YtlhbfkcdagdoaaaWGuard
import Derived.Test.YtlhbfkcdagdoaaaWNEv
import Derived.Test.YtlhbfkcdagdoaaaWMore
namespace Go.Proofs.Ytlhbfkcdagdoaaa.PNames
open Go.RowKit Go.Proofs.YtlhbfkcdagdoaaaW.PrintWords Go.Proofs.YtlhbfkcdagdoaaaW.PrintLast Go.Proofs.YtlhbfkcdagdoaaaW.PrintMore
attribute [local go_sem] max2_int min2_int max_two min_two max_three min_three max_four min_four   -- for this text's walks alone
set_option linter.unusedVariables false
set_option linter.unusedSimpArgs false



def errW : Option Int → Value
  | none => .nilIface
  | some c => .iface 0 (.int .i64 c)
theorem errW_none : errW none = .nilIface := rfl
theorem errW_some (c : Int) : errW (some c) = .iface 0 (.int .i64 c) := rfl

-- the values' own types

end Go.Proofs.Ytlhbfkcdagdoaaa.PNames
